import Derived.Test.YtbhijfbjdbjpbaaDoorQSHBase
import Derived.Test.YtbhijfbjdbjpbaaDoorQSHSh
import Derived.Test.YtbhijfbjdbjpbaaDoorQSHMul
import Derived.Test.YtbhijfbjdbjpbaaDoorQSHLadN
import Derived.Test.YtbhijfbjdbjpbaaDoorQSHLadF
import Derived.Test.YtbhijfbjdbjpbaaDoorGSHx2
import Derived.Test.YtbhijfbjdbjpbaaDoorGSHx9
namespace Go.Proofs.YtbhijfbjdbjpbaaDoor.Q
open Go.RowKit Go.Proofs.YtbhijfbjdbjpbaaDoor.GSH Go.Proofs.YtbhijfbjdbjpbaaDoorW.PrintWords Go.Proofs.YtbhijfbjdbjpbaaDoorW.PrintLast Go.Proofs.YtbhijfbjdbjpbaaDoorW.PrintMore

theorem and_bit (E d : Nat) (hE : E < 18446744073709551616) (hd : d < 64) : Go.bits .and .u64 (E : Int) (IntKind.u64.wrap (2 ^ d)) = 0 ↔ bit E d = 0 := by
  have p := pow_bd d (by omega)
  have p0 := pow_pos_ d
  have hlt : (2 : Nat) ^ d < 2 ^ 64 := Nat.pow_lt_pow_right (by decide) hd
  have e2 : (2 : Int) ^ d = ((2 ^ d : Nat) : Int) := by simp
  have hw : IntKind.u64.wrap (2 ^ d) = ((2 ^ d : Nat) : Int) := by
    rw [e2, wraps_u64 _ (by omega) (by exact_mod_cast hlt)]
  rw [hw, (bits_nat .u64 64 (by decide) wraps_u64 E (2 ^ d) (by omega) hlt).1]
  have hb : bit E d = 0 ↔ E.testBit d = false := by
    rw [Nat.testBit_eq_decide_div_mod_eq]
    unfold bit
    have := Nat.mod_lt (E / 2 ^ d) (show 0 < 2 by decide)
    simp
  rw [hb]
  constructor
  · intro h
    have h0 : E &&& 2 ^ d = 0 := by exact_mod_cast h
    have h1 := congrArg (fun x => x.testBit d) h0
    simpa [Nat.testBit_and, Nat.testBit_two_pow_self] using h1
  · intro h
    have h0 : E &&& 2 ^ d = 0 := by
      apply Nat.eq_of_testBit_eq
      intro i
      rw [Nat.testBit_and, Nat.testBit_two_pow, Nat.zero_testBit]
      by_cases c : d = i
      · subst c
        simp [h]
      · simp [c]
    rw [h0]; rfl
theorem rd_rung {d : Nat} (h : d < 32) : rd rungsL ((31 - d : Nat) : Int) = ((rung d : Nat) : Int) := by
  have : ∀ d : Fin 32, rd rungsL ((31 - d.val : Nat) : Int) = ((rung d.val : Nat) : Int) := by decide +kernel
  exact this ⟨d, h⟩
theorem go_half : ∀ {d : Nat} {E T : Nat}, d ≤ 32 → E < 18446744073709551616 → T ≤ 9223372036854775808 → ladder_Half.go d (E : Int) (T : Int) = some ((hgo d E T : Nat) : Int)
  | 0, _, _, _, _, _ => rfl
  | d + 1, E, T, h, hE, hT => by
    simp only [ladder_Half.go]
    rw [hgo]
    have hr : rung d < 18446744073709551616 := rung_lt (d := d) (by omega)
    by_cases c : bit E d = 0
    · rw [if_pos ((and_bit E d hE (by omega)).2 c), if_pos c]
      exact go_half (by omega) hE hT
    · rw [if_neg (fun h => c ((and_bit E d hE (by omega)).1 h)), if_neg c, rd_rung (by omega)]
      rw [wmul ⟨by omega, by omega⟩ ⟨by omega, by omega⟩]
      simp only [Option.bind_some]
      have e : (T : Int) * ((rung d : Nat) : Int) / 18446744073709551616 = ((T * rung d / BB : Nat) : Int) := by simp
      rw [e]
      refine go_half (by omega) hE ?_
      apply Nat.div_le_of_le_mul
      rw [Nat.mul_comm BB]
      exact Nat.le_trans (Nat.mul_le_mul_left _ (Nat.le_of_lt hr)) (Nat.mul_le_mul_right _ hT)
theorem half (E : Nat) (hE : E < 18446744073709551616) : ladder_Half.f (E : Int) = some ((HH E : Nat) : Int) := by
  unfold ladder_Half.f HH
  by_cases c : E / 4294967296 ≥ 63
  · rw [if_pos (by omega), if_pos c]; rfl
  · rw [if_neg (by omega), if_neg c, if_pos (by omega)]
    have := go_half (d := 32) (E := E) (T := 9223372036854775808) (by omega) hE (by omega)
    rw [show ((9223372036854775808 : Nat) : Int) = 9223372036854775808 from rfl] at this
    rw [this]
    simp only [Option.bind_some]
    have e : ((E : Int) / 4294967296).toNat = E / 4294967296 := by omega
    rw [e]
    unfold gg
    simp
theorem half_i {e : Int} (h : U e) : ladder_Half.f e = some ((HH e.toNat : Nat) : Int) := by
  obtain ⟨h0, h1⟩ := h
  obtain ⟨E, rfl⟩ := Int.eq_ofNat_of_zero_le h0
  rw [Int.toNat_natCast]
  exact half E (by omega)
end Go.Proofs.YtbhijfbjdbjpbaaDoor.Q
