/-
  LadderTells answers true at every exponent: the program's power of one half and its two bounds are the document's. No condition; the variable rungs is listed, and tied to the program's text.
-/
import Derived.Test.YtmgmggkebmgafaaDoorQLLawLad
import Derived.Test.YtmgmggkebmgafaaDoorQLRLad
import Derived.Test.YtmgmggkebmgafaaDoorGLx4
namespace Go.Proofs.YtmgmggkebmgafaaDoor.Pure
open Go.RowKit Go.Proofs.YtmgmggkebmgafaaDoor.GL Go.Proofs.YtmgmggkebmgafaaDoor.Q
theorem LadderTells : backfilllaw07_LadderTells.Pure := by
  intro e h
  have hu := wf_u h
  refine ⟨40, ?_⟩
  unfold backfilllaw07_LadderTells.f
  rw [shown07, bounds_i hu, rbounds 40 (by omega) hu, half_i hu, rhalf 40 (by omega) hu]
  simp only [Option.bind_some, if_true, beq_self_eq_true]
end Go.Proofs.YtmgmggkebmgafaaDoor.Pure
