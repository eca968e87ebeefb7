/-
  LadderRungs answers true at every number: the program's rungs are the document's, each the greatest number whose square is at most what the one ahead says; beyond 32 there are none. No condition; the variable rungs is listed, and tied to the program's text.
-/
import Derived.Test.YtmgmggkebmgafaaDoorQLLawLad
import Derived.Test.YtmgmggkebmgafaaDoorGLx3
namespace Go.Proofs.YtmgmggkebmgafaaDoor.Pure
open Go.RowKit Go.Proofs.YtmgmggkebmgafaaDoor.GL Go.Proofs.YtmgmggkebmgafaaDoor.Q
theorem inside : ∀ i : Fin 32, backfilllaw07_LadderRungs.f 5 ((i.val : Int) + 1) = some true := by decide +kernel
theorem LadderRungs : backfilllaw07_LadderRungs.Pure := by
  intro i h
  refine ⟨5, ?_⟩
  by_cases c : i < 1
  · unfold backfilllaw07_LadderRungs.f ladder_Rung.f backfillref07_Rung.f
    rw [shown07, if_pos c, if_pos c]
    simp only [Option.bind_some, if_true]
    rw [if_pos c]
    rfl
  · by_cases d : i > 32
    · unfold backfilllaw07_LadderRungs.f ladder_Rung.f backfillref07_Rung.f
      rw [shown07, if_neg c, if_neg c, if_pos d, if_pos d]
      simp only [Option.bind_some, if_true]
      rw [if_neg c, decide_eq_true d]
      rfl
    · have := inside ⟨(i - 1).toNat, by omega⟩
      rw [show ((((i - 1).toNat : Nat) : Int) + 1) = i by omega] at this
      exact this
end Go.Proofs.YtmgmggkebmgafaaDoor.Pure
