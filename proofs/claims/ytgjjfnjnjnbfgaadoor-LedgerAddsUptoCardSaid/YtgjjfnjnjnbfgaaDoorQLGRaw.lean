import Derived.Test.YtgjjfnjnjnbfgaaDoorQLGBase
import Derived.Test.YtgjjfnjnjnbfgaaDoorGLGx10
import Derived.Test.YtgjjfnjnjnbfgaaDoorGLGx9
namespace Go.Proofs.YtgjjfnjnjnbfgaaDoor.Q
open Go.RowKit Go.Proofs.YtgjjfnjnjnbfgaaDoor.GLG Go.Proofs.YtgjjfnjnjnbfgaaDoorW.PrintWords Go.Proofs.YtgjjfnjnjnbfgaaDoorW.PrintLast Go.Proofs.YtgjjfnjnjnbfgaaDoorW.PrintMore
/-- What a job adds to the node-ticks so far. -/
def rawS (acc : List Int) (now s : Int) (j : S65) : Int :=
  if j.f0 ∈ acc then (if j.f4 = 3 ∨ j.f4 = 4 ∨ j.f4 = 5 then wrap64 (s + wrap64 (j.f1 * wrap64 (j.f6 - j.f5))) else if j.f4 = 2 then wrap64 (s + wrap64 (j.f1 * wrap64 (now - j.f5))) else s) else s
def rawV (jobs : List S65) (acc : List Int) (now : Int) : Int := jobs.foldl (rawS acc now) 0
theorem rd_nat {xs : List Int} {i : Nat} (h : i < xs.length) : rd xs (i : Int) = xs[i] := by
  simp [rd, List.getD_eq_getElem?_getD, List.getElem?_eq_getElem h]
theorem rdT_nat {xs : List S65} {i : Nat} (h : i < xs.length) : rd_T65 xs (i : Int) = xs[i] := by
  simp [rd_T65, List.getD_eq_getElem?_getD, List.getElem?_eq_getElem h]
theorem index_l {xs : List Int} (hx : xs.length ≤ 9223372036854775807) (a : Int) : ∀ (d k i : Nat), i + d = xs.length → d < k → ∃ r, slices_Index_int_int.l0 k xs a (xs.length : Int) (i : Int) = some r ∧ decide (r ≥ 0) = decide (a ∈ xs.drop i)
  | 0, k + 1, i, hi, _ => by
    refine ⟨-1, ?_, ?_⟩
    · simp only [slices_Index_int_int.l0]
      rw [if_neg (by omega)]
    · rw [List.drop_of_length_le (by omega)]; rfl
  | d + 1, k + 1, i, hi, hk => by
    have hl : i < xs.length := by omega
    simp only [slices_Index_int_int.l0]
    rw [if_pos (by omega), if_pos (by omega), if_pos (by omega), rd_nat hl, List.drop_eq_getElem_cons hl]
    by_cases e : a = xs[i]
    · rw [if_pos e]
      refine ⟨_, rfl, ?_⟩
      rw [decide_eq_true (by omega), decide_eq_true (by rw [e]; exact List.mem_cons_self)]
    · rw [if_neg e, show wrap64 ((i : Int) + 1) = ((i + 1 : Nat) : Int) by rw [wrap64_in (by omega) (by omega)]; rfl]
      obtain ⟨r, h1, h2⟩ := index_l hx a d k (i + 1) (by omega) (by omega)
      refine ⟨r, h1, h2.trans ?_⟩
      rw [decide_eq_decide, List.mem_cons]
      exact ⟨.inr, fun h => h.resolve_left e⟩
theorem contains {xs : List Int} (hx : xs.length ≤ 9223372036854775807) (a : Int) (k : Nat) (hk : xs.length < k) : slices_Contains_int_int.f k xs a = some (decide (a ∈ xs)) := by
  obtain ⟨r, h1, h2⟩ := index_l hx a xs.length k 0 (by omega) hk
  unfold slices_Contains_int_int.f slices_Index_int_int.f
  rw [show (0 : Int) = ((0 : Nat) : Int) from rfl, h1]
  simp only [Option.bind_some]
  rw [List.drop_zero] at h2
  exact congrArg some h2
theorem raw_l {jobs : List S65} {acc : List Int} (hj : jobs.length ≤ 9223372036854775807) (ha : acc.length ≤ 9223372036854775807) (now : Int) : ∀ (d k i : Nat) (s : Int), i + d = jobs.length → 2 * d + acc.length + 3 ≤ k →
    ledger_Raw.l0 k acc now s jobs (jobs.length : Int) (i : Int) = some ((jobs.drop i).foldl (rawS acc now) s)
  | 0, k + 1, i, s, hi, _ => by
    simp only [ledger_Raw.l0]
    rw [if_neg (by omega), List.drop_of_length_le (by omega)]; rfl
  | d + 1, k + 2, i, s, hi, hk => by
    have hl : i < jobs.length := by omega
    rw [ledger_Raw.l0, if_pos (by omega), if_pos (by omega), if_pos (by omega), rdT_nat hl, List.drop_eq_getElem_cons hl, List.foldl_cons, contains ha _ _ (by omega)]
    simp only [Option.bind_some]
    have hw : wrap64 ((i : Int) + 1) = ((i + 1 : Nat) : Int) := by rw [wrap64_in (by omega) (by omega)]; rfl
    rw [hw]
    by_cases hm : jobs[i].f0 ∈ acc
    · rw [decide_eq_true hm, if_pos rfl]
      have hs : ∀ b c : Bool, (ledger_Raw.j1 (k + 1) acc now s jobs (jobs.length : Int) (i : Int) jobs[i].f4 b jobs[i].f0 jobs[i].f1 jobs[i].f2 jobs[i].f3 jobs[i].f4 jobs[i].f5 jobs[i].f6 jobs[i].f7) = (if b = true then (ledger_Raw.l0 k acc now (wrap64 (s + (wrap64 (jobs[i].f1 * (wrap64 (jobs[i].f6 - jobs[i].f5)))))) jobs (jobs.length : Int) ((i + 1 : Nat) : Int)) else (if jobs[i].f4 = 2 then (ledger_Raw.l0 k acc now (wrap64 (s + (wrap64 (jobs[i].f1 * (wrap64 (now - jobs[i].f5)))))) jobs (jobs.length : Int) ((i + 1 : Nat) : Int)) else (ledger_Raw.l0 k acc now s jobs (jobs.length : Int) ((i + 1 : Nat) : Int)))) := by
        intro b _
        simp only [ledger_Raw.j1]
        rw [hw]
      rw [hs _ true, hs _ true, hs _ true]
      have ih := fun s' => raw_l hj ha now d k (i + 1) s' (by omega) (by omega)
      simp only [ih]
      unfold rawS
      rw [if_pos hm]
      by_cases h3 : jobs[i].f4 = 3
      · simp [h3]
      · by_cases h4 : jobs[i].f4 = 4
        · simp [h4]
        · by_cases h5 : jobs[i].f4 = 5
          · simp [h5]
          · by_cases h2 : jobs[i].f4 = 2
            · simp [h2]
            · simp [h3, h4, h5, h2]
    · rw [decide_eq_false hm, if_neg (by decide), raw_l hj ha now d (k + 1) (i + 1) s (by omega) (by omega)]
      unfold rawS
      rw [if_neg hm]
theorem raw {jobs : List S65} {acc : List Int} (hj : jobs.length ≤ 9223372036854775807) (ha : acc.length ≤ 9223372036854775807) (now : Int) : ledger_Raw.f (2 * jobs.length + acc.length + 3) jobs acc now = some (rawV jobs acc now) := by
  unfold ledger_Raw.f rawV
  have := raw_l hj ha now jobs.length (2 * jobs.length + acc.length + 3) 0 0 (by omega) (by omega)
  rwa [List.drop_zero] at this
theorem rraw_in {acc : List Int} (ha : acc.length ≤ 9223372036854775807) (now s : Int) (jobs : List S65) (i n : Int) (f0 f1 f2 f3 f4 f5 f6 : Int) (f7 : List Int) (k : Nat) : ∀ (d q : Nat) (b : Bool), q + d = acc.length →
    backfillref12_Raw.l1 (k + d + 1) acc now s b jobs n i acc (acc.length : Int) (q : Int) f0 f1 f2 f3 f4 f5 f6 f7 = backfillref12_Raw.l1 (k + 1) acc now s (b || decide (f0 ∈ acc.drop q)) jobs n i acc (acc.length : Int) (acc.length : Int) f0 f1 f2 f3 f4 f5 f6 f7
  | 0, q, b, h => by
    obtain rfl : q = acc.length := by omega
    rw [List.drop_length]
    simp
  | d + 1, q, b, h => by
    have hl : q < acc.length := by omega
    rw [show k + (d + 1) + 1 = (k + d + 1) + 1 by omega, backfillref12_Raw.l1, if_pos (by omega), if_pos (by omega), if_pos (by omega), rd_nat hl, List.drop_eq_getElem_cons hl]
    have hw : wrap64 ((q : Int) + 1) = ((q + 1 : Nat) : Int) := by rw [wrap64_in (by omega) (by omega)]; rfl
    rw [hw]
    cases b
    · rw [if_neg (by decide), rraw_in ha now s jobs i n f0 f1 f2 f3 f4 f5 f6 f7 k d (q + 1) _ (by omega)]
      congr 1
      rw [Bool.eq_iff_iff]
      simp only [Bool.or_eq_true, beq_iff_eq, decide_eq_true_eq, List.mem_cons, Bool.false_or]
      exact ⟨fun h => h.imp Eq.symm id, fun h => h.imp Eq.symm id⟩
    · rw [if_pos rfl, rraw_in ha now s jobs i n f0 f1 f2 f3 f4 f5 f6 f7 k d (q + 1) _ (by omega)]
      simp
theorem rraw_l {jobs : List S65} {acc : List Int} (hj : jobs.length ≤ 9223372036854775807) (ha : acc.length ≤ 9223372036854775807) (now : Int) : ∀ (d i : Nat) (s : Int), i + d = jobs.length →
    backfillref12_Raw.l0 (d * (acc.length + 3) + 1) acc now s jobs (jobs.length : Int) (i : Int) = some ((jobs.drop i).foldl (rawS acc now) s)
  | 0, i, s, hi => by
    rw [Nat.zero_mul, Nat.zero_add, backfillref12_Raw.l0, if_neg (by omega), List.drop_of_length_le (by omega)]; rfl
  | d + 1, i, s, hi => by
    have hl : i < jobs.length := by omega
    have hw : wrap64 ((i : Int) + 1) = ((i + 1 : Nat) : Int) := by rw [wrap64_in (by omega) (by omega)]; rfl
    rw [show (d + 1) * (acc.length + 3) + 1 = ((d * (acc.length + 3) + 2) + acc.length + 1) + 1 by rw [Nat.add_mul]; omega, backfillref12_Raw.l0, if_pos (by omega), if_pos (by omega), if_pos (by omega), rdT_nat hl, List.drop_eq_getElem_cons hl, List.foldl_cons]
    have h := rraw_in ha now s jobs (i : Int) (jobs.length : Int) jobs[i].f0 jobs[i].f1 jobs[i].f2 jobs[i].f3 jobs[i].f4 jobs[i].f5 jobs[i].f6 jobs[i].f7 (d * (acc.length + 3) + 2) acc.length 0 false (by omega)
    rw [show ((0 : Nat) : Int) = 0 from rfl] at h
    rw [h, List.drop_zero, Bool.false_or, backfillref12_Raw.l1, if_neg (by omega), hw]
    have ih := fun s' => rraw_l hj ha now d (i + 1) s' (by omega)
    have ih2 : ∀ s', backfillref12_Raw.l0 (d * (acc.length + 3) + 2) acc now s' jobs (jobs.length : Int) ((i + 1 : Nat) : Int) = some ((jobs.drop (i + 1)).foldl (rawS acc now) s') := fun s' => (backfillref12_Raw.mono_l _).1 _ _ _ _ _ _ _ (ih s')
    by_cases hm : jobs[i].f0 ∈ acc
    · rw [decide_eq_true hm, if_pos rfl]
      have hs : ∀ b : Bool, (backfillref12_Raw.j2 (d * (acc.length + 3) + 2) acc now s jobs (jobs.length : Int) (i : Int) jobs[i].f4 b jobs[i].f0 jobs[i].f1 jobs[i].f2 jobs[i].f3 jobs[i].f4 jobs[i].f5 jobs[i].f6 jobs[i].f7) = (if b = true then some ((jobs.drop (i + 1)).foldl (rawS acc now) (wrap64 (s + (wrap64 (jobs[i].f1 * (wrap64 (jobs[i].f6 - jobs[i].f5))))))) else (if jobs[i].f4 = 2 then some ((jobs.drop (i + 1)).foldl (rawS acc now) (wrap64 (s + (wrap64 (jobs[i].f1 * (wrap64 (now - jobs[i].f5))))))) else some ((jobs.drop (i + 1)).foldl (rawS acc now) s))) := by
        intro b
        rw [backfillref12_Raw.j2, hw, ih, ih, ih]
      rw [hs, hs, hs]
      unfold rawS
      rw [if_pos hm]
      by_cases h3 : jobs[i].f4 = 3
      · simp [h3]
      · by_cases h4 : jobs[i].f4 = 4
        · simp [h4]
        · by_cases h5 : jobs[i].f4 = 5
          · simp [h5]
          · by_cases h2 : jobs[i].f4 = 2
            · simp [h2]
            · simp [h3, h4, h5, h2]
    · rw [decide_eq_false hm, if_neg (by decide), ih2]
      unfold rawS
      rw [if_neg hm]
theorem rraw {jobs : List S65} {acc : List Int} (hj : jobs.length ≤ 9223372036854775807) (ha : acc.length ≤ 9223372036854775807) (now : Int) : backfillref12_Raw.f (jobs.length * (acc.length + 3) + 1) jobs acc now = some (rawV jobs acc now) := by
  unfold backfillref12_Raw.f rawV
  have := rraw_l hj ha now jobs.length 0 0 (by omega)
  rwa [List.drop_zero] at this
end Go.Proofs.YtgjjfnjnjnbfgaaDoor.Q
