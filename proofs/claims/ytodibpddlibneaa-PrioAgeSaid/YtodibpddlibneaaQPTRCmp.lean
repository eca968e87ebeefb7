import Derived.Test.YtodibpddlibneaaQPTBase
import Derived.Test.YtodibpddlibneaaGPTx12
namespace Go.Proofs.Ytodibpddlibneaa.Q
open Go.RowKit Go.Proofs.Ytodibpddlibneaa.GPT Go.Proofs.YtodibpddlibneaaW.PrintWords Go.Proofs.YtodibpddlibneaaW.PrintLast Go.Proofs.YtodibpddlibneaaW.PrintMore

theorem rcmp_j {b : Bool} {ah al bh bl : Int} (k : Nat) (hk : 1 ≤ k) (h2 : U al) (h4 : U bl) (hb : b = decide (V ah al < V bh bl)) : backfillref01_Cmp.j0 k b ah al bh bl = some (cmpV (V ah al) (V bh bl)) := by
  obtain ⟨k, rfl⟩ : ∃ m, k = m + 1 := ⟨k - 1, by omega⟩
  simp only [backfillref01_Cmp.j0]
  unfold cmpV
  subst hb
  by_cases c : V ah al < V bh bl
  · rw [if_pos c, if_pos (decide_eq_true c)]
  · rw [if_neg c, if_neg (by simpa using c)]
    unfold V at c ⊢
    obtain ⟨h2a, h2b⟩ := h2; obtain ⟨h4a, h4b⟩ := h4
    by_cases e : ah = bh ∧ al = bl
    · rw [if_pos (by simp [e.1, e.2]), if_pos (by omega)]
    · rw [if_neg (by simpa using e), if_neg (by omega)]
theorem rcmp {ah al bh bl : Int} (k : Nat) (hk : 1 ≤ k) (h2 : U al) (h4 : U bl) : backfillref01_Cmp.f k ah al bh bl = some (cmpV (V ah al) (V bh bl)) := by
  unfold backfillref01_Cmp.f
  have h2' := h2; have h4' := h4
  obtain ⟨h2a, h2b⟩ := h2; obtain ⟨h4a, h4b⟩ := h4
  by_cases c : ah < bh
  · rw [if_pos c]
    exact rcmp_j k hk h2' h4' (by unfold V; symm; rw [decide_eq_true_iff]; omega)
  · rw [if_neg c]
    by_cases e : ah = bh
    · rw [if_pos e]
      exact rcmp_j k hk h2' h4' (by unfold V; congr 1; apply propext; omega)
    · rw [if_neg e]
      exact rcmp_j k hk h2' h4' (by unfold V; symm; rw [decide_eq_false_iff_not]; omega)
end Go.Proofs.Ytodibpddlibneaa.Q
