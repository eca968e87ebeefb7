import Derived.Test.YtmgmggkebmgafaaDoorQKLad
import Derived.Test.YtmgmggkebmgafaaDoorQKRMul
import Derived.Test.YtmgmggkebmgafaaDoorGKx2
namespace Go.Proofs.YtmgmggkebmgafaaDoor.Q
open Go.RowKit Go.Proofs.YtmgmggkebmgafaaDoor.GK Go.Proofs.YtmgmggkebmgafaaDoorW.PrintWords Go.Proofs.YtmgmggkebmgafaaDoorW.PrintLast Go.Proofs.YtmgmggkebmgafaaDoorW.PrintMore

theorem rrungs : backfillref07_rungs.f = some rungsL := rfl
theorem shr_bit (E d : Nat) (hE : E < 18446744073709551616) (hd : d < 64) : Go.bits .and .u64 (shr .u64 (E : Int) (d : Int)) 1 = ((bit E d : Nat) : Int) := by
  rw [shr_at d (by omega), and1]
  · unfold bit
    simp
  · have : (E : Int) / 2 ^ d = ((E / 2 ^ d : Nat) : Int) := by simp
    rw [this]
    have := Nat.div_le_self E (2 ^ d)
    generalize E / 2 ^ d = z at *
    exact ⟨by omega, by omega⟩
theorem rgo : ∀ (d k : Nat) {E T : Nat} {x3 i : Int}, d < k → d ≤ 32 → i = 33 - (d : Int) → 0 ≤ x3 → E < 18446744073709551616 → T ≤ 9223372036854775808 →
    backfillref07_Half.l0 k (E : Int) x3 rungsL (T : Int) i = some (shr .u64 ((hgo d E T : Nat) : Int) x3)
  | 0, k, E, T, x3, i, hk, _, hi, h3, _, _ => by
    obtain ⟨k, rfl⟩ : ∃ m, k = m + 1 := ⟨k - 1, by omega⟩
    simp only [backfillref07_Half.l0]
    rw [if_neg (by omega), if_pos h3, hgo]
  | d + 1, k, E, T, x3, i, hk, hd, hi, h3, hE, hT => by
    obtain ⟨k, rfl⟩ : ∃ m, k = m + 1 := ⟨k - 1, by omega⟩
    simp only [backfillref07_Half.l0]
    subst hi
    rw [if_pos (by omega), show wrap64 (32 - (33 - ((d + 1 : Nat) : Int))) = (d : Int) by rw [wrap64_in (by omega) (by omega)]; omega, if_pos (by omega), shr_bit E d hE (by omega)]
    rw [show wrap64 (33 - ((d + 1 : Nat) : Int) + 1) = 33 - (d : Int) by rw [wrap64_in (by omega) (by omega)]; omega]
    rw [show wrap64 (33 - ((d + 1 : Nat) : Int) - 1) = ((31 - d : Nat) : Int) by rw [wrap64_in (by omega) (by omega)]; omega]
    have hb := bit_lt E d
    have hr : rung d < 18446744073709551616 := rung_lt (d := d) (by omega)
    rw [hgo]
    by_cases c : bit E d = 0
    · rw [if_neg (by omega), if_pos c]
      exact rgo d k (by omega) (by omega) rfl h3 hE hT
    · rw [if_pos (by omega), if_neg c, if_pos (by omega), if_pos (show ((31 - d : Nat) : Int) < (rungsL.length : Int) by rw [show rungsL.length = 32 from rfl]; omega), rd_rung (by omega)]
      rw [rmul ⟨by omega, by omega⟩ ⟨by omega, by omega⟩]
      simp only [Option.bind_some]
      have e : (T : Int) * ((rung d : Nat) : Int) / 18446744073709551616 = ((T * rung d / BB : Nat) : Int) := by simp
      rw [e]
      refine rgo d k (by omega) (by omega) rfl h3 hE ?_
      apply Nat.div_le_of_le_mul
      rw [Nat.mul_comm BB]
      exact Nat.le_trans (Nat.mul_le_mul_left _ (Nat.le_of_lt hr)) (Nat.mul_le_mul_right _ hT)
theorem rhalf (k : Nat) (hk : 33 ≤ k) {e : Int} (h : U e) : backfillref07_Half.f k e = some ((HH e.toNat : Nat) : Int) := by
  obtain ⟨h0, h1⟩ := h
  obtain ⟨E, rfl⟩ := Int.eq_ofNat_of_zero_le h0
  rw [Int.toNat_natCast]
  unfold backfillref07_Half.f HH
  by_cases c : E / 4294967296 ≥ 63
  · rw [if_pos (by omega), if_pos c]; rfl
  · rw [if_neg (by omega), if_neg c, rrungs]
    simp only [Option.bind_some]
    have := rgo 32 k (E := E) (T := 9223372036854775808) (x3 := (E : Int) / 4294967296) (i := 1) (by omega) (by omega) (by omega) (by omega) (by omega) (by omega)
    rw [show ((9223372036854775808 : Nat) : Int) = 9223372036854775808 from rfl] at this
    rw [this, show (E : Int) / 4294967296 = ((E / 4294967296 : Nat) : Int) by omega, shr_at _ (by omega)]
    unfold gg
    simp
end Go.Proofs.YtmgmggkebmgafaaDoor.Q
