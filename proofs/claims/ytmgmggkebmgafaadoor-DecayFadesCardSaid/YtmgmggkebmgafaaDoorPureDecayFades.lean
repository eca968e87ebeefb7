/-
  DecayFades answers true at every usage, factor and number of periods: the program's Fades, the document's, and so many Fades one by one, leave the same. No condition; the variable rungs is listed, and tied to the program's text.
-/
import Derived.Test.YtmgmggkebmgafaaDoorQKLawDecay
import Derived.Test.YtmgmggkebmgafaaDoorGKx2
import Derived.Test.YtmgmggkebmgafaaDoorGKx5
namespace Go.Proofs.YtmgmggkebmgafaaDoor.Pure
open Go.RowKit Go.Proofs.YtmgmggkebmgafaaDoor.GK Go.Proofs.YtmgmggkebmgafaaDoor.Q Go.Proofs.YtmgmggkebmgafaaDoorW.PrintWords
/-- What so many periods leave. -/
def fadesV : Nat → Int → Int → Int
  | 0, u, _ => u
  | d + 1, u, f => if partV u f = u then u else fadesV d (partV u f) f
/-- How many periods are looked at. -/
def most (p : Int) : Nat := (if 65536 < p then 65536 else p).toNat
theorem most_le (p : Int) : most p ≤ 65536 := by unfold most; split <;> omega
theorem p_go {f : Int} (hf : U f) : ∀ (d : Nat) {u : Int}, U u → decay_Fades.go d u f = some (fadesV d u f)
  | 0, _, _ => rfl
  | d + 1, u, hu => by
    simp only [decay_Fades.go, fadesV]
    rw [fade hu hf]
    simp only [Option.bind_some]
    by_cases c : partV u f = u
    · rw [if_pos c, if_pos c]
    · rw [if_neg c, if_neg c]
      exact p_go hf d (partU hu hf)
theorem p_fades {u f : Int} (p : Int) (hu : U u) (hf : U f) : decay_Fades.f u f p = some (fadesV (most p) u f) := by
  unfold decay_Fades.f
  exact p_go hf _ hu
theorem r_go {f p : Int} (hf : U f) : ∀ (d k : Nat) {u i : Int}, 2 * d + 140 ≤ k → 0 ≤ i → i ≤ 65536 → (i.toNat + d = most p ∨ d = 0 ∧ most p ≤ i.toNat) → U u → backfillref10_Fades.l0 k u f p i = some (fadesV d u f)
  | 0, k, u, i, hk, i0, i1, hm, hu => by
    obtain ⟨k, rfl⟩ : ∃ m, k = m + 2 := ⟨k - 2, by omega⟩
    simp only [backfillref10_Fades.l0, fadesV]
    have hc : ¬ (i < p ∧ i < 65536) := by unfold most at hm; split at hm <;> omega
    by_cases c : i < p
    · rw [if_pos c, decide_eq_false (by omega)]
      simp only [backfillref10_Fades.j1]
      rw [if_neg (by decide)]
    · rw [if_neg c]
      simp only [backfillref10_Fades.j1]
      rw [if_neg (by decide)]
  | d + 1, k, u, i, hk, i0, i1, hm, hu => by
    obtain ⟨k, rfl⟩ : ∃ m, k = m + 2 := ⟨k - 2, by omega⟩
    simp only [backfillref10_Fades.l0, fadesV]
    have hc : i < p ∧ i < 65536 := by unfold most at hm; split at hm <;> omega
    rw [if_pos hc.1, decide_eq_true hc.2]
    simp only [backfillref10_Fades.j1, if_true]
    rw [rfade k (by omega) hu hf]
    simp only [Option.bind_some]
    by_cases c : partV u f = u
    · rw [if_pos c, if_pos c, c]
    · rw [if_neg c, if_neg c, wrap64_in (by omega) (by omega)]
      exact r_go hf d k (by omega) (by omega) (by omega) (by omega) (partU hu hf)
theorem r_fades (k : Nat) (hk : 131300 ≤ k) {u f : Int} (p : Int) (hu : U u) (hf : U f) : backfillref10_Fades.f k u f p = some (fadesV (most p) u f) := by
  unfold backfillref10_Fades.f
  have := most_le p
  exact r_go hf (most p) k (by omega) (by omega) (by omega) (by omega) hu
theorem law_go {u f p : Int} (hu : U u) (hf : U f) : ∀ (d k : Nat) {x i : Int}, 2 * d + 131400 ≤ k → 0 ≤ i → i ≤ 65536 → (i.toNat + d = most p ∨ d = 0 ∧ most p ≤ i.toNat) → U x → fadesV d x f = fadesV (most p) u f → backfilllaw10_DecayFades.l0 k u f p true x i = some true
  | 0, k, x, i, hk, i0, i1, hm, hx, he => by
    obtain ⟨k, rfl⟩ : ∃ m, k = m + 2 := ⟨k - 2, by omega⟩
    simp only [fadesV] at he
    have hc : ¬ (i < p ∧ i < 65536) := by unfold most at hm; split at hm <;> omega
    have hj : backfilllaw10_DecayFades.j3 (k + 1) u f p true x i false = some true := by
      simp only [backfilllaw10_DecayFades.j3]
      rw [if_neg (by decide), if_pos trivial, p_fades p hu hf, r_fades k (by omega) p hu hf]
      simp only [Option.bind_some]
      rw [if_pos he.symm, he, beq_self_eq_true]
    simp only [backfilllaw10_DecayFades.l0]
    by_cases c : i < p
    · rw [if_pos c, decide_eq_false (by omega)]
      exact hj
    · rw [if_neg c]
      exact hj
  | d + 1, k, x, i, hk, i0, i1, hm, hx, he => by
    obtain ⟨k, rfl⟩ : ∃ m, k = m + 2 := ⟨k - 2, by omega⟩
    simp only [fadesV] at he
    simp only [backfilllaw10_DecayFades.l0]
    have hc : i < p ∧ i < 65536 := by unfold most at hm; split at hm <;> omega
    rw [if_pos hc.1, decide_eq_true hc.2]
    simp only [backfilllaw10_DecayFades.j3, if_true]
    rw [fade hx hf]
    simp only [Option.bind_some]
    by_cases c : partV x f = x
    · rw [if_pos c] at he
      rw [if_pos c, p_fades p hu hf, r_fades k (by omega) p hu hf]
      simp only [Option.bind_some]
      rw [if_pos (by rw [c, he]), c, he, beq_self_eq_true]
    · rw [if_neg c] at he
      rw [if_neg c, wrap64_in (by omega) (by omega)]
      exact law_go hu hf d k (by omega) (by omega) (by omega) (by omega) (partU hx hf) he
theorem law_j1 (k : Nat) (hk : 262500 ≤ k) {u f p : Int} (hu : U u) (hf : U f) : backfilllaw10_DecayFades.j1 k u f p true = some true := by
  obtain ⟨k, rfl⟩ : ∃ m, k = m + 1 := ⟨k - 1, by omega⟩
  simp only [backfilllaw10_DecayFades.j1]
  have := most_le p
  exact law_go hu hf (most p) k (by omega) (by omega) (by omega) (by omega) hu rfl
theorem law_j0 (k : Nat) (hk : 262501 ≤ k) {u f p : Int} (b : Bool) (hu : U u) (hf : U f) : backfilllaw10_DecayFades.j0 k u f p true b = some true := by
  obtain ⟨k, rfl⟩ : ∃ m, k = m + 1 := ⟨k - 1, by omega⟩
  simp only [backfilllaw10_DecayFades.j0]
  split
  · exact law_j1 k (by omega) hu hf
  · exact law_j1 k (by omega) hu hf
theorem law_f (k : Nat) (hk : 262501 ≤ k) {u f : Int} (p : Int) (hu : U u) (hf : U f) : backfilllaw10_DecayFades.f k u f p = some true := by
  unfold backfilllaw10_DecayFades.f
  rw [shown10]
  simp only [Option.bind_some]
  split
  · split
    · exact law_j0 k hk _ hu hf
    · exact law_j0 k hk _ hu hf
  · exact law_j0 k hk _ hu hf
theorem DecayFades : backfilllaw10_DecayFades.Pure := by
  intro u f p hu hf _
  exact ⟨262501, law_f 262501 (Nat.le_refl _) p (wf_u hu) (wf_u hf)⟩
end Go.Proofs.YtmgmggkebmgafaaDoor.Pure
