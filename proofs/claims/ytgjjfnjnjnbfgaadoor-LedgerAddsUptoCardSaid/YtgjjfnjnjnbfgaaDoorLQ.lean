/- Laws of raw node-ticks, plain: sums modulo 2^64. Conditions: each theorem's own. -/
import Derived.Test.YtgjjfnjnjnbfgaaDoorQLGRaw
namespace Go.Proofs.YtgjjfnjnjnbfgaaDoor.L
open Go.RowKit Go.Proofs.YtgjjfnjnjnbfgaaDoorW.PrintWords Go.Proofs.YtgjjfnjnjnbfgaaDoor.Q Go.Proofs.YtgjjfnjnjnbfgaaDoor.GLG
set_option linter.unusedVariables false
set_option linter.unusedSimpArgs false
theorem wr_eq (x : Int) : ∃ k : Int, wrap64 x = x + k * 18446744073709551616 := ⟨-((x + 9223372036854775808) / 18446744073709551616), by unfold wrap64; omega⟩
theorem wr_add (x k : Int) : wrap64 (x + k * 18446744073709551616) = wrap64 x := by unfold wrap64; omega
theorem wr_of {x y k : Int} (h : x = y + k * 18446744073709551616) : wrap64 x = wrap64 y := by rw [h, wr_add]
def dl (acc : List Int) (now : Int) (j : S65) : Int := if j.f0 ∈ acc then (if j.f4 = 3 ∨ j.f4 = 4 ∨ j.f4 = 5 then j.f1 * (j.f6 - j.f5) else if j.f4 = 2 then j.f1 * (now - j.f5) else 0) else 0
def tot (acc : List Int) (now : Int) : List S65 → Int
  | [] => 0
  | j :: r => dl acc now j + tot acc now r
theorem wr_mul (s a d : Int) : wrap64 (wrap64 s + wrap64 (a * wrap64 d)) = wrap64 (s + a * d) := by
  obtain ⟨k1, h1⟩ := wr_eq s
  obtain ⟨k2, h2⟩ := wr_eq d
  obtain ⟨k3, h3⟩ := wr_eq (a * wrap64 d)
  refine wr_of (k := k1 + a * k2 + k3) ?_
  rw [h3, h1, h2]
  grind
theorem rawS_dl (acc : List Int) (now s : Int) (j : S65) : rawS acc now (wrap64 s) j = wrap64 (s + dl acc now j) := by
  unfold rawS dl
  by_cases h : j.f0 ∈ acc
  · rw [if_pos h, if_pos h]
    by_cases h3 : j.f4 = 3 ∨ j.f4 = 4 ∨ j.f4 = 5
    · rw [if_pos h3, if_pos h3, wr_mul]
    · rw [if_neg h3, if_neg h3]
      by_cases h2 : j.f4 = 2
      · rw [if_pos h2, if_pos h2, wr_mul]
      · rw [if_neg h2, if_neg h2, Int.add_zero]
  · rw [if_neg h, if_neg h, Int.add_zero]
theorem fold_tot (acc : List Int) (now : Int) : ∀ (l : List S65) (s : Int), l.foldl (rawS acc now) (wrap64 s) = wrap64 (s + tot acc now l)
  | [], s => by simp [tot]
  | j :: r, s => by rw [List.foldl_cons, rawS_dl, fold_tot acc now r, tot, Int.add_assoc]
theorem raw_tot (l : List S65) (acc : List Int) (now : Int) : rawV l acc now = wrap64 (tot acc now l) := by
  have := fold_tot acc now l 0
  rw [Int.zero_add, show wrap64 0 = 0 by unfold wrap64; omega] at this
  exact this
theorem tot_append (acc : List Int) (now : Int) : ∀ a b : List S65, tot acc now (a ++ b) = tot acc now a + tot acc now b
  | [], b => by simp [tot]
  | j :: r, b => by rw [List.cons_append, tot, tot, tot_append acc now r b, Int.add_assoc]
theorem wr_two (x y : Int) : wrap64 (wrap64 x + wrap64 y) = wrap64 (x + y) := by unfold wrap64; omega
theorem raw_append (a b : List S65) (acc : List Int) (now : Int) : rawV (a ++ b) acc now = wrap64 (rawV a acc now + rawV b acc now) := by
  rw [raw_tot, raw_tot, raw_tot, tot_append, wr_two]
theorem dl_parts {acc one other : List Int} (h : ∀ x, x ∈ acc ↔ x ∈ one ∨ x ∈ other) (hd : ∀ x, x ∈ one → ¬ x ∈ other) (now : Int) (j : S65) : dl acc now j = dl one now j + dl other now j := by
  unfold dl
  by_cases h1 : j.f0 ∈ one
  · rw [if_pos h1, if_neg (hd _ h1), if_pos ((h _).2 (.inl h1)), Int.add_zero]
  · rw [if_neg h1, Int.zero_add]
    by_cases h2 : j.f0 ∈ other
    · rw [if_pos h2, if_pos ((h _).2 (.inr h2))]
    · rw [if_neg h2, if_neg (fun h3 => ((h _).1 h3).elim h1 h2)]
theorem tot_parts {acc one other : List Int} (h : ∀ x, x ∈ acc ↔ x ∈ one ∨ x ∈ other) (hd : ∀ x, x ∈ one → ¬ x ∈ other) (now : Int) : ∀ l : List S65, tot acc now l = tot one now l + tot other now l
  | [] => rfl
  | j :: r => by rw [tot, tot, tot, dl_parts h hd, tot_parts h hd now r]; omega
theorem raw_parts {acc one other : List Int} (h : ∀ x, x ∈ acc ↔ x ∈ one ∨ x ∈ other) (hd : ∀ x, x ∈ one → ¬ x ∈ other) (now : Int) (l : List S65) : rawV l acc now = wrap64 (rawV l one now + rawV l other now) := by
  rw [raw_tot, raw_tot, raw_tot, tot_parts h hd, wr_two]
/-- The accounts that are not among the first k. -/
def others (acc : List Int) (k : Nat) : Nat → List Int
  | 0 => []
  | i + 1 => others acc k i ++ (if rd (acc.drop k) (i : Int) ∈ acc.take k then [] else [rd (acc.drop k) (i : Int)])
theorem others_filter (acc : List Int) (k : Nat) : ∀ i, i ≤ (acc.drop k).length → others acc k i = ((acc.drop k).take i).filter (fun x => decide (¬ x ∈ acc.take k))
  | 0, _ => rfl
  | i + 1, h => by
    rw [others, others_filter acc k i (by omega), List.take_add_one, List.filter_append]
    have e : (acc.drop k)[i]? = some (rd (acc.drop k) (i : Int)) := by
      rw [rd_nat (by omega)]; exact List.getElem?_eq_getElem (by omega)
    rw [e]
    congr 1
    by_cases hx : rd (acc.drop k) (i : Int) ∈ acc.take k
    · rw [if_pos hx]; simp [hx]
    · rw [if_neg hx]; simp [hx]
theorem others_len (acc : List Int) (k i : Nat) (h : i ≤ (acc.drop k).length) : (others acc k i).length ≤ i := by
  rw [others_filter acc k i h]
  refine Nat.le_trans (List.length_filter_le _ _) ?_
  rw [List.length_take]; omega
theorem raw_cut (acc : List Int) (k : Nat) (now : Int) (l : List S65) : rawV l acc now = wrap64 (rawV l (acc.take k) now + rawV l (others acc k (acc.drop k).length) now) := by
  have e := others_filter acc k _ (Nat.le_refl _)
  rw [List.take_length] at e
  refine raw_parts (fun x => ?_) (fun x h1 h2 => ?_) now l
  · rw [e, List.mem_filter, decide_eq_true_eq]
    constructor
    · intro h
      by_cases h1 : x ∈ acc.take k
      · exact .inl h1
      · refine .inr ⟨?_, h1⟩
        rw [← List.take_append_drop k acc, List.mem_append] at h
        exact h.resolve_left h1
    · rintro (h | ⟨h, _⟩)
      · exact List.mem_of_mem_take h
      · exact List.mem_of_mem_drop h
  · rw [e, List.mem_filter, decide_eq_true_eq] at h2
    exact h2.2 h1
/-- The nodes that run. -/
def runS (acc : List Int) (r : Int) (j : S65) : Int := if j.f4 = 2 ∧ j.f0 ∈ acc then wrap64 (r + j.f1) else r
def runN (acc : List Int) (l : List S65) : Nat → Int
  | 0 => 0
  | i + 1 => runS acc (runN acc l i) (rd_T65 l (i : Int))
def runD (acc : List Int) (j : S65) : Int := if j.f4 = 2 ∧ j.f0 ∈ acc then j.f1 else 0
def runT (acc : List Int) : List S65 → Int
  | [] => 0
  | j :: r => runD acc j + runT acc r
theorem runT_append (acc : List Int) : ∀ a b : List S65, runT acc (a ++ b) = runT acc a + runT acc b
  | [], b => by simp [runT]
  | j :: r, b => by rw [List.cons_append, runT, runT, runT_append acc r b, Int.add_assoc]
theorem runN_eq (acc : List Int) (l : List S65) : ∀ i, i ≤ l.length → runN acc l i = wrap64 (runT acc (l.take i))
  | 0, _ => by
    rw [List.take_zero]
    exact (show wrap64 0 = 0 by unfold wrap64; omega).symm
  | i + 1, h => by
    have e : l[i]? = some (rd_T65 l (i : Int)) := by rw [rdT_nat (by omega)]; exact List.getElem?_eq_getElem (by omega)
    rw [runN, runN_eq acc l i (by omega), List.take_add_one, runT_append, e]
    show runS acc _ _ = wrap64 (runT acc (l.take i) + (runD acc (rd_T65 l (i : Int)) + 0))
    unfold runS runD
    rw [Int.add_zero]
    by_cases hx : (rd_T65 l (i : Int)).f4 = 2 ∧ (rd_T65 l (i : Int)).f0 ∈ acc
    · rw [if_pos hx, if_pos hx]; unfold wrap64; omega
    · rw [if_neg hx, if_neg hx, Int.add_zero]
theorem dl_next (acc : List Int) (now : Int) (j : S65) : ∃ k : Int, dl acc (wrap64 (now + 1)) j = dl acc now j + runD acc j + k * 18446744073709551616 := by
  unfold dl runD
  by_cases h : j.f0 ∈ acc
  · rw [if_pos h, if_pos h]
    by_cases h3 : j.f4 = 3 ∨ j.f4 = 4 ∨ j.f4 = 5
    · rw [if_pos h3, if_pos h3, if_neg (fun h4 => by omega)]
      exact ⟨0, by omega⟩
    · rw [if_neg h3, if_neg h3]
      by_cases h2 : j.f4 = 2
      · rw [if_pos h2, if_pos h2, if_pos ⟨h2, h⟩]
        obtain ⟨k, hk⟩ := wr_eq (now + 1)
        refine ⟨j.f1 * k, ?_⟩
        rw [hk]
        grind
      · rw [if_neg h2, if_neg h2, if_neg (fun h4 => h2 h4.1)]
        exact ⟨0, by omega⟩
  · rw [if_neg h, if_neg h, if_neg (fun h4 => h h4.2)]
    exact ⟨0, by omega⟩
theorem tot_next (acc : List Int) (now : Int) : ∀ l : List S65, ∃ k : Int, tot acc (wrap64 (now + 1)) l = tot acc now l + runT acc l + k * 18446744073709551616
  | [] => ⟨0, by simp [tot, runT]⟩
  | j :: r => by
    obtain ⟨k1, h1⟩ := dl_next acc now j
    obtain ⟨k2, h2⟩ := tot_next acc now r
    refine ⟨k1 + k2, ?_⟩
    rw [tot, tot, runT, h1, h2]
    omega
theorem raw_next (acc : List Int) (now : Int) (l : List S65) : rawV l acc (wrap64 (now + 1)) = wrap64 (rawV l acc now + runN acc l l.length) := by
  obtain ⟨k, h⟩ := tot_next acc now l
  rw [raw_tot, raw_tot, runN_eq acc l _ (Nat.le_refl _), List.take_length, wr_two, h, wr_add]
end Go.Proofs.YtgjjfnjnjnbfgaaDoor.L
