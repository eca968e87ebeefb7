/-
  DecayBounded answers true at every period, half, limit and list of charges: charged so many node-ticks a period at most, and then faded, nobody ever has more than k periods' worth. No condition; the variable rungs is listed, and tied to the program's text.
-/
import Derived.Test.YtmgmggkebmgafaaDoorQKLawDecay
import Derived.Test.YtmgmggkebmgafaaDoorQKLadC
import Derived.Test.YtmgmggkebmgafaaDoorGKx6
namespace Go.Proofs.YtmgmggkebmgafaaDoor.Pure
open Go.RowKit Go.Proofs.YtmgmggkebmgafaaDoor.GK Go.Proofs.YtmgmggkebmgafaaDoor.Q Go.Proofs.YtmgmggkebmgafaaDoorW.PrintWords Go.Proofs.YtmgmggkebmgafaaDoorW.PrintMore
theorem fade_bd {t f M K : Int} (h0 : 0 ≤ t) (h1 : t ≤ M * K) (f0 : 0 ≤ f) (f1 : f ≤ 9223372036854775808) (M0 : 0 ≤ M) (hf : f * K ≤ 9223372036854775808 * (K - 1)) : partV t f ≤ M * (K - 1) := by
  unfold partV
  rw [if_neg (by omega)]
  have a1 := Int.mul_le_mul_of_nonneg_right h1 f0
  have a2 := Int.mul_le_mul_of_nonneg_left hf M0
  have e1 : M * K * f = M * (f * K) := by grind
  have e2 : M * (9223372036854775808 * (K - 1)) = 9223372036854775808 * (M * (K - 1)) := by grind
  rw [e1] at a1
  rw [e2] at a2
  generalize t * f = x at *
  generalize M * (K - 1) = y at *
  omega
/-- How many periods' worth. -/
def kV (E : Int) : Int := if (8589934592 + E - 1) / E < 2 then 2 else (8589934592 + E - 1) / E
theorem k_half {E : Int} (E0 : 1 ≤ E) : ((HH E.toNat : Nat) : Int) * kV E ≤ 9223372036854775808 * (kV E - 1) := by
  obtain ⟨e, rfl⟩ := Int.eq_ofNat_of_zero_le (show 0 ≤ E by omega)
  rw [Int.toNat_natCast]
  unfold kV
  have hd := Int.ediv_mul_add_emod (8589934592 + (e : Int) - 1) e
  have hm := Int.emod_lt_of_pos (8589934592 + (e : Int) - 1) (show 0 < (e : Int) by omega)
  have hm0 := Int.emod_nonneg (8589934592 + (e : Int) - 1) (show (e : Int) ≠ 0 by omega)
  generalize (8589934592 + (e : Int) - 1) % e = r at *
  generalize (8589934592 + (e : Int) - 1) / e = K at *
  by_cases c : K < 2
  · rw [if_pos c]
    have hK : K * e ≤ 1 * e := Int.mul_le_mul_of_nonneg_right (by omega) (by omega)
    have := HH_half (e := e) (by omega)
    omega
  · rw [if_neg c]
    by_cases d : 4294967296 ≤ e
    · have a0 := HH_half d
      have a1 : ((HH e : Nat) : Int) * K ≤ 4611686018427387904 * K := Int.mul_le_mul_of_nonneg_right (by omega) (by omega)
      omega
    · have a0 := HH_chord (e := e) (by omega)
      have a1 : (((HH e : Nat) : Int) + e * 1073741824) * K ≤ 9223372036854775808 * K := Int.mul_le_mul_of_nonneg_right (by omega) (by omega)
      have a2 : (((HH e : Nat) : Int) + e * 1073741824) * K = ((HH e : Nat) : Int) * K + K * e * 1073741824 := by grind
      omega
theorem bounded_go {l : List Int} {m K f : Int} (m0 : 1 ≤ m) (m1 : m ≤ 1048576) (K0 : 2 ≤ K) (K1 : K ≤ 2048) (f0 : 0 ≤ f) (f1 : f ≤ 9223372036854775808) (hf : f * K ≤ 9223372036854775808 * (K - 1)) :
    ∀ (d k : Nat) {u i : Int}, 4 * d + 2 ≤ k → 0 ≤ i → i ≤ 3000 → i + d = 3000 → 0 ≤ u → u ≤ m * 4294967296 * (K - 1) → backfilllaw10_DecayBounded.l0 k m l true f K u i = some true
  | d, k, u, i, hk, i0, i1, hd, u0, u1 => by
    obtain ⟨k, rfl⟩ : ∃ q, k = q + 2 := ⟨k - 2, by omega⟩
    simp only [backfilllaw10_DecayBounded.l0]
    by_cases c : i < 3000 ∧ i < (l.length : Int)
    · obtain ⟨d, rfl⟩ : ∃ q, d = q + 1 := ⟨d - 1, by omega⟩
      obtain ⟨k, rfl⟩ : ∃ q, k = q + 2 := ⟨k - 2, by omega⟩
      rw [if_pos c.2, decide_eq_true c.1]
      simp only [backfilllaw10_DecayBounded.j3, if_true]
      rw [if_pos i0, if_pos c.2]
      have hj : ∀ n : Int, 0 ≤ n → n ≤ m → backfilllaw10_DecayBounded.j5 (k + 1) m l true f K u i n = some true := by
        intro n n0 n1
        simp only [backfilllaw10_DecayBounded.j5]
        have p1 : m * 4294967296 * (K - 1) ≤ 4503599627370496 * (K - 1) := Int.mul_le_mul_of_nonneg_right (by omega) (by omega)
        have p2 : m * 4294967296 * K = m * 4294967296 * (K - 1) + m * 4294967296 := by grind
        have hu : U u := ⟨u0, by omega⟩
        have hch : chargeV u n = u + n * 4294967296 := by
          unfold chargeV capV
          rw [if_neg (by omega), if_pos (show n * 4294967296 < 18446744073709551616 by omega)]
          simp only []
          rw [if_pos (by omega)]
        rw [charge hu (by omega), hch]
        simp only [Option.bind_some]
        have p3 : m * K * 4294967296 = m * 4294967296 * K := by grind
        have p4 : 0 ≤ m * K := Int.mul_nonneg (by omega) (by omega)
        rw [w64_in (x := m) (by omega) (by omega), w64_in (x := m * K) (by omega) (by omega), w64_in (x := m * K * 4294967296) (by omega) (by omega), if_neg (by omega)]
        rw [fade ⟨by omega, by omega⟩ ⟨by omega, by omega⟩]
        simp only [Option.bind_some]
        rw [wrap64_in (by omega) (by omega)]
        have q1 := fade_bd (t := u + n * 4294967296) (M := m * 4294967296) (K := K) (by omega) (by omega) f0 f1 (by omega) hf
        have q2 := part_le (a := u + n * 4294967296) (f := f) ⟨by omega, by omega⟩ ⟨by omega, by omega⟩
        exact bounded_go m0 m1 K0 K1 f0 f1 hf d k (by omega) (by omega) (by omega) (by omega) q2.1 q1
      generalize rd l i = n
      by_cases e : n < 0
      · rw [if_pos e]
        simp only [backfilllaw10_DecayBounded.j4, if_true]
        exact hj m (by omega) (by omega)
      · rw [if_neg e]
        simp only [backfilllaw10_DecayBounded.j4]
        by_cases g : n > m
        · rw [decide_eq_true g, if_pos rfl]
          exact hj m (by omega) (by omega)
        · rw [decide_eq_false g, if_neg (by decide)]
          exact hj n (by omega) (by omega)
    · by_cases e : i < (l.length : Int)
      · rw [if_pos e, decide_eq_false (by omega)]
        simp only [backfilllaw10_DecayBounded.j3]
        rw [if_neg (by decide)]
      · rw [if_neg e]
        simp only [backfilllaw10_DecayBounded.j3]
        rw [if_neg (by decide)]
theorem bounded_j1 {l : List Int} {m K f : Int} (m0 : 1 ≤ m) (m1 : m ≤ 1048576) (K0 : 2 ≤ K) (f0 : 0 ≤ f) (f1 : f ≤ 9223372036854775808) (hf : f * K ≤ 9223372036854775808 * (K - 1)) (k : Nat) (hk : 12003 ≤ k) : backfilllaw10_DecayBounded.j1 k m l true f K = some true := by
  obtain ⟨k, rfl⟩ : ∃ q, k = q + 1 := ⟨k - 1, by omega⟩
  simp only [backfilllaw10_DecayBounded.j1]
  by_cases c : K > 2048
  · rw [if_pos c]
  · rw [if_neg c]
    refine bounded_go m0 m1 K0 (by omega) f0 f1 hf 3000 k (by omega) (by omega) (by omega) (by omega) (by omega) ?_
    exact Int.mul_nonneg (by omega) (by omega)
theorem bounded_f (k : Nat) (hk : 12004 ≤ k) (p h m : Int) (l : List Int) : backfilllaw10_DecayBounded.f k p h m l = some true := by
  unfold backfilllaw10_DecayBounded.f
  rw [shown10, factor]
  simp only [Option.bind_some]
  obtain ⟨k, rfl⟩ : ∃ q, k = q + 1 := ⟨k - 1, by omega⟩
  have ht : ∀ x, backfilllaw10_DecayBounded.j0 (k + 1) p h m l true x true = some true := by
    intro x
    simp only [backfilllaw10_DecayBounded.j0, if_true]
  unfold factV
  by_cases c : p < 1 ∨ p > 1048576 ∨ h < 1 ∨ h > 1073741824
  · rw [if_pos c, if_neg (by decide)]
    exact ht _
  · rw [if_neg c, if_pos rfl]
    by_cases d : m < 1
    · rw [if_pos d]
      exact ht _
    · rw [if_neg d]
      by_cases e : m > 1048576
      · rw [decide_eq_true e]
        exact ht _
      · rw [decide_eq_false e]
        have he := exp_bd (p := p) (h := h) (by omega) (by omega) (by omega)
        have he1 : 1 ≤ expV p h := by
          unfold expV
          rw [Int.le_ediv_iff_mul_le (by omega)]
          omega
        simp only [backfilllaw10_DecayBounded.j0]
        rw [exp_w (by omega) (by omega) (by omega) (by omega)]
        generalize expV p h = E at *
        rw [if_neg (by decide), if_neg (by rw [w64_in (by omega) (by omega)]; omega), if_neg (by omega)]
        rw [w64_in (x := 8589934592 + E) (by omega) (by omega), w64_in (x := 8589934592 + E - 1) (by omega) (by omega), tdiv_eq (by omega)]
        have b0 := Int.ediv_nonneg (a := 8589934592 + E - 1) (b := E) (by omega) (by omega)
        have b1 := Int.ediv_le_self (a := 8589934592 + E - 1) E (by omega)
        rw [w64_in (x := (8589934592 + E - 1) / E) (by omega) (by omega)]
        have hk := k_half he1
        have hle := HH_le E.toNat
        unfold kV at hk
        by_cases g : (8589934592 + E - 1) / E < 2
        · rw [if_pos g] at hk ⊢
          exact bounded_j1 (by omega) (by omega) (by omega) (by omega) (by omega) hk k (by omega)
        · rw [if_neg g] at hk ⊢
          exact bounded_j1 (by omega) (by omega) (by omega) (by omega) (by omega) hk k (by omega)
theorem DecayBounded : backfilllaw10_DecayBounded.Pure := by
  intro p h m l _ _ _ _ _ _
  exact ⟨12004, bounded_f 12004 (Nat.le_refl _) p h m l⟩
end Go.Proofs.YtmgmggkebmgafaaDoor.Pure
