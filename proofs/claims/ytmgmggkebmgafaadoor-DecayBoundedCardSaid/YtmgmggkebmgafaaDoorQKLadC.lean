import Derived.Test.YtmgmggkebmgafaaDoorQKLadN
import Derived.Test.YtmgmggkebmgafaaDoorQKLadF
namespace Go.Proofs.YtmgmggkebmgafaaDoor.Q
open Go.RowKit

/-- The next rung; beyond the last, one half. -/
def crung (d : Nat) : Nat := if d = 32 then 9223372036854775808 else rung d
theorem crung_le {d : Nat} (h : d ≤ 32) : crung d ≤ BB := by
  unfold crung
  split
  · decide
  · exact Nat.le_of_lt (rung_lt (by omega))
theorem crung_sq {d : Nat} (h : d < 32) : crung d * crung d ≤ BB * crung (d + 1) := by
  unfold crung
  rw [if_neg (by omega)]
  by_cases c : d + 1 = 32
  · rw [if_pos c]
    have e : d = 31 := by omega
    subst e
    decide +kernel
  · rw [if_neg c]
    exact (rung_sq ⟨d, by omega⟩).1
/-- The step, where the bit is not set. -/
theorem chord0 {B P r c m T h : Int} (hm : 0 ≤ m) (hT : 0 ≤ T) (hB : 0 < B) (hc : r * r ≤ B * c)
    (ih : h * (P * B) ≤ T * (P * B - m * (B - r))) : h * (2 * P * B) ≤ T * (2 * P * B - m * (B - c)) := by
  have s1 : 0 ≤ (B - r) * (B - r) := by
    rcases Int.le_total 0 (B - r) with d | d
    · exact Int.mul_nonneg d d
    · exact Int.mul_nonneg_of_nonpos_of_nonpos d d
  have s2 : 0 ≤ B * (B + c - 2 * r) := by
    have : B * (B + c - 2 * r) = (B - r) * (B - r) + (B * c - r * r) := by grind
    omega
  have s3 : 0 ≤ B + c - 2 * r := by
    by_cases d : B + c - 2 * r < 0
    · have := Int.mul_neg_of_pos_of_neg hB d
      omega
    · omega
  have s4 := Int.mul_nonneg (Int.mul_nonneg hT hm) s3
  have e : T * (2 * P * B - m * (B - c)) - h * (2 * P * B) = 2 * (T * (P * B - m * (B - r)) - h * (P * B)) + T * m * (B + c - 2 * r) := by grind
  omega
/-- The step, where it is. -/
theorem chord1 {B P r c m T T' h : Int} (hm : 0 ≤ m) (hmP : m ≤ P) (hT : 0 ≤ T) (hB : 0 < B) (hr0 : 0 ≤ r) (hrB : r ≤ B) (hc : r * r ≤ B * c) (ht : T' * B ≤ T * r)
    (ih : h * (P * B) ≤ T' * (P * B - m * (B - r))) : h * (2 * P * B) ≤ T * (2 * P * B - (P + m) * (B - c)) := by
  have s1 : 0 ≤ (B - r) * (B - r) := Int.mul_nonneg (by omega) (by omega)
  have q0 : 0 ≤ P * B - m * (B - r) := by
    have a1 := Int.mul_le_mul_of_nonneg_right hmP (show 0 ≤ B by omega)
    have a2 := Int.mul_nonneg hm hr0
    have e : P * B - m * (B - r) = (P * B - m * B) + m * r := by grind
    omega
  have s2 : 0 ≤ B * (B + c - 2 * r) := by
    have : B * (B + c - 2 * r) = (B - r) * (B - r) + (B * c - r * r) := by grind
    omega
  have i1 : h * (P * B) * B ≤ T * r * (P * B - m * (B - r)) := by
    have a1 := Int.mul_le_mul_of_nonneg_right ih (show 0 ≤ B by omega)
    have a2 := Int.mul_le_mul_of_nonneg_right ht q0
    have e : T' * (P * B - m * (B - r)) * B = T' * B * (P * B - m * (B - r)) := by grind
    omega
  have n1 := Int.mul_nonneg hT (Int.mul_nonneg (show 0 ≤ P - m by omega) s2)
  have n2 := Int.mul_nonneg hT (Int.mul_nonneg hm (show 0 ≤ 2 * (B * c - r * r) by omega))
  have e : (T * (2 * P * B - (P + m) * (B - c)) - h * (2 * P * B)) * B = 2 * (T * r * (P * B - m * (B - r)) - h * (P * B) * B) + T * ((P - m) * (B * (B + c - 2 * r))) + T * (m * (2 * (B * c - r * r))) := by grind
  by_cases d : T * (2 * P * B - (P + m) * (B - c)) - h * (2 * P * B) < 0
  · have := Int.mul_neg_of_neg_of_pos d hB
    omega
  · omega
/-- Below the chord. -/
theorem hgo_chord {e : Nat} : ∀ {d : Nat} (t : Nat), d ≤ 32 → (hgo d e t : Int) * (2 ^ d * BB) ≤ t * (2 ^ d * BB - ((e % 2 ^ d : Nat) : Int) * ((BB : Int) - crung d))
  | 0, t, _ => by simp [hgo, Nat.mod_one]
  | d + 1, t, h => by
    have hb : (0 : Int) < (BB : Int) := by decide
    have hs : (crung d : Int) * crung d ≤ BB * crung (d + 1) := by exact_mod_cast crung_sq (d := d) (by omega)
    have hr : (crung d : Int) ≤ BB := by exact_mod_cast crung_le (d := d) (by omega)
    have er : crung d = rung d := by unfold crung; rw [if_neg (by omega)]
    have hm : ((e % 2 ^ d : Nat) : Int) ≤ 2 ^ d := by
      have : e % 2 ^ d ≤ 2 ^ d := Nat.le_of_lt (Nat.mod_lt _ (Nat.two_pow_pos d))
      exact_mod_cast this
    have hp : (2 : Int) ^ (d + 1) = 2 * 2 ^ d := by rw [Int.pow_succ]; omega
    rw [hgo, hp, split_bit e d]
    by_cases c : bit e d = 0
    · rw [if_pos c, c, Nat.zero_mul, Nat.zero_add]
      have ih := hgo_chord (e := e) (d := d) t (by omega)
      exact chord0 (by omega) (by omega) hb hs ih
    · have hb1 := bit_lt e d
      rw [if_neg c, show bit e d = 1 by omega, Nat.one_mul]
      have ih := hgo_chord (e := e) (d := d) (t * rung d / BB) (by omega)
      have ht : ((t * rung d / BB : Nat) : Int) * BB ≤ t * crung d := by
        rw [er]
        have := Nat.div_mul_le_self (t * rung d) BB
        exact_mod_cast this
      have e2 : (((2 ^ d + e % 2 ^ d : Nat)) : Int) = 2 ^ d + ((e % 2 ^ d : Nat) : Int) := by simp
      rw [e2]
      exact chord1 (by omega) hm (by omega) hb (by omega) hr hs ht ih
/-- Half, below the chord. -/
theorem HH_chord {e : Nat} (h : e < 4294967296) : HH e + e * 1073741824 ≤ 9223372036854775808 := by
  unfold HH
  rw [if_neg (by omega), show e / 4294967296 = 0 by omega, Nat.pow_zero, Nat.div_one]
  unfold gg
  have := hgo_chord (e := e) (d := 32) 9223372036854775808 (by omega)
  have e1 : e % 2 ^ 32 = e := by omega
  have e2 : crung 32 = 9223372036854775808 := rfl
  have e3 : ((BB : Nat) : Int) = 18446744073709551616 := rfl
  rw [e1, e2, e3] at this
  have e4 : (2 : Int) ^ 32 = 4294967296 := by decide
  rw [e4] at this
  generalize hgo 32 e 9223372036854775808 = z at *
  omega
theorem HH_half {e : Nat} (h : 4294967296 ≤ e) : HH e ≤ 4611686018427387904 := by
  have h1 := HH_mono h
  have h2 := HH_whole (n := 1) (by omega)
  rw [Nat.one_mul] at h2
  rw [h2] at h1
  exact h1
end Go.Proofs.YtmgmggkebmgafaaDoor.Q
