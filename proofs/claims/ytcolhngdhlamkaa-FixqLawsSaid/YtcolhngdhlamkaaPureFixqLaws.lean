/-
  FixqLaws answers true at every three numbers: up is down or one more, all rises with what rises, and a part is a part. No condition.
-/
import Derived.Test.YtcolhngdhlamkaaQFLLawFix0
import Derived.Test.YtcolhngdhlamkaaGFLx3
import Derived.Test.YtcolhngdhlamkaaGFLx7
import Derived.Test.YtcolhngdhlamkaaGFLx8
namespace Go.Proofs.Ytcolhngdhlamkaa.Pure
open Go.RowKit Go.Proofs.Ytcolhngdhlamkaa.GFL Go.Proofs.Ytcolhngdhlamkaa.Q Go.Proofs.YtcolhngdhlamkaaW.PrintWords
theorem beside_cap {v : Int} (h0 : 0 ≤ v) (c : Bool) : backfilllaw04_beside.f (capV v).1 (capV v).2 (capV (v + if c = true then 1 else 0)).1 (capV (v + if c = true then 1 else 0)).2 = some true := by
  unfold backfilllaw04_beside.f
  have hc : ∃ e : Int, (if c = true then (1 : Int) else 0) = e ∧ 0 ≤ e ∧ e ≤ 1 := by
    cases c
    · exact ⟨0, rfl, by omega, by omega⟩
    · exact ⟨1, rfl, by omega, by omega⟩
  obtain ⟨e, he, e0, e1⟩ := hc
  rw [he]
  unfold capV
  by_cases d : v + e < 18446744073709551616
  · rw [if_pos (show v < 18446744073709551616 by omega), if_pos d, if_pos (by simp)]
    by_cases f : v = v + e
    · rw [if_pos f]
    · rw [if_neg f, if_pos rfl, w64_in (by omega) (by omega), if_pos (by omega)]
  · rw [if_neg d]
    by_cases f : v < 18446744073709551616
    · rw [if_pos f, if_neg (by simp), if_pos rfl, if_neg (by decide)]
      have : v = 18446744073709551615 := by omega
      rw [this]
      rfl
    · rw [if_neg f, if_pos (by simp), if_pos rfl]
theorem beside_mul (a b : Int) (ha : U a) (hb : U b) : backfilllaw04_beside.f (capV (mulV a b false)).1 (capV (mulV a b false)).2 (capV (mulV a b true)).1 (capV (mulV a b true)).2 = some true := by
  have m := mul_bd ha hb
  have := beside_cap (v := a * b / 4294967296) (by omega) (decide (a * b % 4294967296 > 0))
  unfold mulV
  simp only [Bool.false_and, Bool.true_and, Bool.false_eq_true, if_false, Int.add_zero]
  exact this
theorem beside_div (a b : Int) (ha : U a) (hb : U b) : backfilllaw04_beside.f (divV a b false).1 (divV a b false).2 (divV a b true).1 (divV a b true).2 = some true := by
  unfold divV
  by_cases c : b = 0
  · rw [if_pos c, if_pos c]; rfl
  · rw [if_neg c, if_neg c]
    obtain ⟨a0, a1⟩ := ha
    have := beside_cap (v := a * 4294967296 / b) (Int.ediv_nonneg (by omega) hb.1) (decide (a * 4294967296 % b > 0))
    simp only [Bool.false_and, Bool.true_and, Bool.false_eq_true, if_false, Int.add_zero]
    exact this
theorem cap_mono {x y : Int} (h : x ≤ y) : (capV x).1 ≤ (capV y).1 := by
  unfold capV
  split
  · split
    · exact h
    · show x ≤ 18446744073709551615
      omega
  · rw [if_neg (by omega)]
    exact Int.le_refl _
theorem mul_mono {a b c : Int} (hb : U b) (h : a ≤ c) : (capV (mulV a b false)).1 ≤ (capV (mulV c b false)).1 := by
  apply cap_mono
  unfold mulV
  simp only [Bool.false_and, Bool.false_eq_true, if_false, Int.add_zero]
  exact Int.ediv_le_ediv (by decide) (Int.mul_le_mul_of_nonneg_right h hb.1)
theorem div_mono {a b c : Int} (hb : U b) (h : a ≤ c) : (divV a b false).1 ≤ (divV c b false).1 := by
  unfold divV
  by_cases d : b = 0
  · rw [if_pos d, if_pos d]; exact Int.le_refl _
  · rw [if_neg d, if_neg d]
    apply cap_mono
    simp only [Bool.false_and, Bool.false_eq_true, if_false, Int.add_zero]
    exact Int.ediv_le_ediv (by obtain ⟨b0, _⟩ := hb; omega) (by omega)
theorem part_mono {u v f : Int} (hf : U f) (h : u ≤ v) : partV u f ≤ partV v f := by
  unfold partV
  obtain ⟨f0, _⟩ := hf
  split
  · omega
  · have := Int.mul_le_mul_of_nonneg_right h f0
    exact Int.ediv_le_ediv (by decide) this
theorem part_mono2 {u f g : Int} (hu : U u) (h : f ≤ g) : partV u f ≤ partV u g := by
  unfold partV
  refine Int.ediv_le_ediv (by decide) (Int.mul_le_mul_of_nonneg_left ?_ hu.1)
  split <;> split <;> omega
theorem capU {v : Int} (h : 0 ≤ v) : U (capV v).1 := by
  unfold capV
  split
  · exact ⟨h, by assumption⟩
  · exact ⟨by decide, by decide⟩
theorem mulU {a b : Int} (ha : U a) (hb : U b) : U (capV (mulV a b false)).1 := by
  have m := mul_bd ha hb
  apply capU
  unfold mulV
  simp only [Bool.false_and, Bool.false_eq_true, if_false, Int.add_zero]
  omega
theorem of04 (n : Int) (b : Bool) : backfilllaw04_of.f n b = some (n, b) := rfl
theorem whole_mul {n : Int} (h : U n) : capV (mulV n 4294967296 true) = (n, true) := by
  obtain ⟨a, b⟩ := h
  unfold mulV capV
  rw [show n * 4294967296 % 4294967296 = 0 by omega, show n * 4294967296 / 4294967296 = n by omega]
  simp [b]
theorem whole_div {n : Int} (h : U n) : divV n 4294967296 false = (n, true) := by
  obtain ⟨a, b⟩ := h
  unfold divV capV
  rw [show n * 4294967296 / 4294967296 = n by omega]
  simp [b]
theorem part_one {n : Int} (h : U n) : partV n 9223372036854775808 = n := by
  unfold partV
  rw [if_neg (by decide)]
  omega
theorem laws_j2 (k : Nat) (hk : 40 ≤ k) {a b x : Int} (ha : U a) (hb : U b) (hx : U x) (y : Bool) : backfilllaw04_FixqLaws.j2 k a b true true true x y = some true := by
  obtain ⟨k, rfl⟩ : ∃ m, k = m + 1 := ⟨k - 1, by omega⟩
  simp only [backfilllaw04_FixqLaws.j2]
  have hs : U (capV (a + b)).1 := capU (by obtain ⟨a0, _⟩ := ha; obtain ⟨b0, _⟩ := hb; omega)
  have hp : U (4294967296 : Int) := ⟨by omega, by omega⟩
  have ho : U (9223372036854775808 : Int) := ⟨by omega, by omega⟩
  rw [fq_add ha hb]
  simp only [Option.bind_some, of04]
  rw [fq_sub hs hb]
  simp only [Option.bind_some, of04]
  rw [fq_mulUp k (by omega) hx hp, whole_mul hx]
  simp only [Option.bind_some, of04, if_true, beq_self_eq_true, Bool.and_self]
  rw [fq_part ha hb, fq_part ha ho, part_one ha, fq_divDown k (by omega) ha hp, whole_div ha]
  simp only [Option.bind_some, of04, if_true, beq_self_eq_true, Bool.and_self]
  have l := part_le ha hb
  rw [if_pos l.2]
  by_cases c : a + b < 18446744073709551616
  · have e : capV (a + b) = (a + b, true) := by unfold capV; rw [if_pos c]
    rw [e]
    obtain ⟨a0, _⟩ := ha
    rw [if_pos rfl, if_neg (show ¬ b > a + b by omega), if_pos (by simp)]
  · have e : capV (a + b) = (18446744073709551615, false) := by unfold capV; rw [if_neg c]
    rw [e, if_neg (by decide)]
theorem laws_j1 (k : Nat) (hk : 41 ≤ k) {a b c : Int} (ha : U a) (hb : U b) (hc : U c) (h : a ≤ c) : backfilllaw04_FixqLaws.j1 k a b c true true (capV (mulV a b false)).1 (capV (mulV a b false)).2 (capV (mulV c b false)).1 (capV (mulV c b false)).2 (divV a b false).1 (divV a b false).2 (divV c b false).1 (divV c b false).2 = some true := by
  obtain ⟨k, rfl⟩ : ∃ m, k = m + 1 := ⟨k - 1, by omega⟩
  simp only [backfilllaw04_FixqLaws.j1]
  rw [if_pos (mul_mono hb h), if_pos (div_mono hb h), fq_part ha hb, fq_part hc hb, fq_part hb ha, fq_part hb hc]
  simp only [Option.bind_some]
  rw [if_pos (part_mono hb h), decide_eq_true (part_mono2 hb h)]
  exact laws_j2 k (by omega) ha hb (mulU ha hb) _
theorem laws_j0 (k : Nat) (hk : 42 ≤ k) {a b c : Int} (ha : U a) (hb : U b) (hc : U c) (h : a ≤ c) : backfilllaw04_FixqLaws.j0 k a b c true = some true := by
  obtain ⟨k, rfl⟩ : ∃ m, k = m + 1 := ⟨k - 1, by omega⟩
  simp only [backfilllaw04_FixqLaws.j0]
  rw [fq_mulDown k (by omega) ha hb, fq_mulDown k (by omega) hc hb, fq_divDown k (by omega) ha hb, fq_divDown k (by omega) hc hb, fq_mulUp k (by omega) ha hb, fq_divUp k (by omega) ha hb]
  simp only [Option.bind_some, of04]
  rw [beside_mul a b ha hb, beside_div a b ha hb]
  simp only [Option.bind_some, if_true]
  exact laws_j1 k (by omega) ha hb hc h
theorem FixqLaws : backfilllaw04_FixqLaws.Pure := by
  intro a b c ha hb hc
  refine ⟨50, ?_⟩
  unfold backfilllaw04_FixqLaws.f
  rw [shown04 50 (by omega)]
  simp only [Option.bind_some]
  by_cases d : a > c
  · rw [if_pos d]
    exact laws_j0 50 (by omega) (wf_u hc) (wf_u hb) (wf_u ha) (by omega)
  · rw [if_neg d]
    exact laws_j0 50 (by omega) (wf_u ha) (wf_u hb) (wf_u hc) (by omega)
end Go.Proofs.Ytcolhngdhlamkaa.Pure
