import Derived.Test.YtcolhngdhlamkaaQWSh
import Derived.Test.YtcolhngdhlamkaaQWMul
import Derived.Test.YtcolhngdhlamkaaQWCmp
import Derived.Test.YtcolhngdhlamkaaGWx4
namespace Go.Proofs.Ytcolhngdhlamkaa.Q
open Go.RowKit Go.Proofs.Ytcolhngdhlamkaa.GW Go.Proofs.YtcolhngdhlamkaaW.PrintWords Go.Proofs.YtcolhngdhlamkaaW.PrintLast Go.Proofs.YtcolhngdhlamkaaW.PrintMore
/-- The root, bit by bit. -/
def sqrtV : Nat → Int → Int → Int
  | 0, r, _ => r
  | d + 1, r, v => if (r + 2 ^ d) * (r + 2 ^ d) ≤ v then sqrtV d (r + 2 ^ d) v else sqrtV d r v
theorem cmp_pos {x y : Int} : cmpV x y > 0 ↔ ¬ x ≤ y := by unfold cmpV; (split; omega; split <;> omega)
theorem shl_one (d : Nat) (h : d < 64) : shl .u64 1 (d : Int) = 2 ^ d := by
  rw [shl_at d (by omega), Int.one_mul]
  have := pow_pos_ d
  have h2 : (2 : Nat) ^ d < 2 ^ 64 := Nat.pow_lt_pow_right (by decide) h
  have h4 : ((2 ^ d : Nat) : Int) < ((2 ^ 64 : Nat) : Int) := Int.ofNat_lt.mpr h2
  have h3 : (2 : Int) ^ d < 18446744073709551616 := by simpa using h4
  omega
theorem pow_s (d : Nat) : (2 : Int) ^ (d + 1) = 2 * 2 ^ d := by rw [Int.pow_succ]; omega
/-- What the root's bits ahead are: a multiple of what is left, with room for it. -/
theorem sq_step {r : Int} {d : Nat} (h0 : 0 ≤ r) (hm : r % 2 ^ (d + 1) = 0) (hb : r + 2 ^ (d + 1) ≤ 18446744073709551616) :
    r % 2 ^ d = 0 ∧ r + 2 ^ d ≤ 18446744073709551616 ∧ (r + 2 ^ d) % 2 ^ d = 0 ∧ r + 2 ^ d + 2 ^ d ≤ 18446744073709551616 ∧ 0 ≤ r + 2 ^ d ∧ r + 2 ^ d < 18446744073709551616 := by
  have p := pow_pos_ d
  rw [pow_s] at hm hb
  have h1 : r % 2 ^ d = 0 := by
    have := Int.emod_emod_of_dvd r (Int.dvd_mul_left 2 (2 ^ d))
    rw [hm] at this
    simpa using this.symm
  refine ⟨h1, by omega, ?_, by omega, by omega, by omega⟩
  rw [Int.add_emod, h1]
  simp
theorem sqrtV_bd {v : Int} : ∀ (d : Nat) {r : Int}, 0 ≤ r → r + 2 ^ d ≤ 18446744073709551616 → U (sqrtV d r v)
  | 0, r, h0, h1 => by
    simp only [sqrtV]
    exact ⟨h0, by simp at h1; omega⟩
  | d + 1, r, h0, h1 => by
    rw [pow_s] at h1
    have p := pow_pos_ d
    simp only [sqrtV]
    split
    · exact sqrtV_bd d (by omega) (by omega)
    · exact sqrtV_bd d h0 (by omega)
theorem wsqrt_l0 {h l : Int} (hl : U l) : ∀ (d k : Nat) {r i : Int}, d < k → i = 64 - (d : Int) → d ≤ 64 → 0 ≤ r → r % 2 ^ d = 0 → r + 2 ^ d ≤ 18446744073709551616 → wide_Sqrt.l0 k r i h l = some (sqrtV d r (V h l))
  | 0, k, r, i, hk, hi, _, _, _, _ => by
    obtain ⟨k, rfl⟩ : ∃ m, k = m + 1 := ⟨k - 1, by omega⟩
    simp only [wide_Sqrt.l0, sqrtV]
    rw [if_neg (by omega)]
  | d + 1, k, r, i, hk, hi, hd, h0, hm, hb => by
    obtain ⟨k, rfl⟩ : ∃ m, k = m + 1 := ⟨k - 1, by omega⟩
    obtain ⟨s1, s2, s3, s4, s5, s6⟩ := sq_step h0 hm hb
    have p := pow_pos_ d
    simp only [wide_Sqrt.l0, sqrtV]
    subst hi
    rw [if_pos (by omega), show wrap64 (63 - (64 - ((d + 1 : Nat) : Int))) = (d : Int) by rw [wrap64_in (by omega) (by omega)]; omega, if_pos (by omega), shl_one d (by omega)]
    rw [or_add (d + 1) ⟨h0, by omega⟩ hm (by omega) (by rw [pow_s]; omega) (by omega), wmul ⟨s5, s6⟩ ⟨s5, s6⟩]
    simp only [Option.bind_some]
    rw [wcmp (umod _) hl]
    simp only [Option.bind_some]
    have hv : V ((r + 2 ^ d) * (r + 2 ^ d) / 18446744073709551616) ((r + 2 ^ d) * (r + 2 ^ d) % 18446744073709551616) = (r + 2 ^ d) * (r + 2 ^ d) := by unfold V; omega
    rw [hv, show wrap64 (64 - ((d + 1 : Nat) : Int) + 1) = 64 - (d : Int) by rw [wrap64_in (by omega) (by omega)]; omega]
    by_cases c : (r + 2 ^ d) * (r + 2 ^ d) ≤ V h l
    · rw [if_neg (by rw [cmp_pos]; omega), if_pos c]
      exact wsqrt_l0 hl d k (by omega) rfl (by omega) s5 s3 s4
    · rw [if_pos (by rw [cmp_pos]; omega), if_neg c]
      exact wsqrt_l0 hl d k (by omega) rfl (by omega) h0 s1 s2
theorem wsqrt {h l : Int} (k : Nat) (hk : 65 ≤ k) (hl : U l) : wide_Sqrt.f k h l = some (sqrtV 64 0 (V h l)) := by
  unfold wide_Sqrt.f
  exact wsqrt_l0 hl 64 k (by omega) (by omega) (by omega) (by omega) (by decide) (by decide)
end Go.Proofs.Ytcolhngdhlamkaa.Q
