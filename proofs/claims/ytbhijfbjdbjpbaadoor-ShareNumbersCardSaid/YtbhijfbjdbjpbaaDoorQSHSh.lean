import Derived.Test.YtbhijfbjdbjpbaaDoorQSHBase
namespace Go.Proofs.YtbhijfbjdbjpbaaDoor.Q
open Go.RowKit Go.Proofs.YtbhijfbjdbjpbaaDoorW.PrintWords Go.Proofs.YtbhijfbjdbjpbaaDoorW.PrintLast Go.Proofs.YtbhijfbjdbjpbaaDoorW.PrintMore

theorem pow_bd (n : Nat) (h : n ≤ 64) : (2 : Int) ^ n ≤ 18446744073709551616 := by
  have : (2 : Nat) ^ n ≤ 2 ^ 64 := Nat.pow_le_pow_right (by decide) h
  have h2 : ((2 ^ n : Nat) : Int) ≤ ((2 ^ 64 : Nat) : Int) := by exact_mod_cast this
  simpa using h2
theorem pow_pos_ (n : Nat) : (0 : Int) < 2 ^ n := by
  have : 0 < 2 ^ n := Nat.two_pow_pos n
  exact_mod_cast this
theorem pow_split (n : Nat) (h : n ≤ 64) : (2 : Int) ^ n * 2 ^ (64 - n) = 18446744073709551616 := by
  rw [← Int.pow_add, show n + (64 - n) = 64 by omega]; rfl
theorem emod_pow {x : Int} (n : Nat) (h : n ≤ 64) : (x * 2 ^ n) % 18446744073709551616 % 2 ^ n = 0 := by
  rw [← pow_split n h, Int.emod_emod_of_dvd _ (Int.dvd_mul_right _ _)]
  simp
theorem div_lt_pow {x : Int} (n : Nat) (h : n ≤ 64) (hx : U x) : 0 ≤ x / 2 ^ (64 - n) ∧ x / 2 ^ (64 - n) < 2 ^ n := by
  refine ⟨Int.ediv_nonneg hx.1 (Int.le_of_lt (pow_pos_ _)), ?_⟩
  apply Int.ediv_lt_of_lt_mul (pow_pos_ _)
  rw [pow_split n h]
  exact hx.2
theorem umod (x : Int) : U (x % 18446744073709551616) := ⟨by omega, by omega⟩
/-- What a shift to the left by fewer than 64 bits comes to. -/
def shlV (h l : Int) (n : Nat) : Int × Int := ((h * 2 ^ n) % 18446744073709551616 + l / 2 ^ (64 - n), (l * 2 ^ n) % 18446744073709551616)
def shrV (h l : Int) (n : Nat) : Int × Int := (h / 2 ^ n, (h * 2 ^ (64 - n)) % 18446744073709551616 + l / 2 ^ n)
theorem shl_sum {h l : Int} (hh : U h) (hl : U l) (n : Nat) (h1 : n ≤ 64) : 0 ≤ (h * 2 ^ n) % 18446744073709551616 + l / 2 ^ (64 - n) ∧ (h * 2 ^ n) % 18446744073709551616 + l / 2 ^ (64 - n) < 18446744073709551616 := by
  have d := div_lt_pow (x := l) n h1 hl
  have u := umod (h * 2 ^ n)
  have m := emod_pow (x := h) n h1
  have p := pow_pos_ n
  refine ⟨by have := u.1; omega, ?_⟩
  obtain ⟨q, hq⟩ := Int.dvd_of_emod_eq_zero m
  have hs := pow_split n h1
  rw [hq] at u ⊢
  have hq1 : q < 2 ^ (64 - n) := by
    have h2 := u.2
    rw [← hs] at h2
    exact Int.lt_of_mul_lt_mul_left h2 (Int.le_of_lt p)
  have h3 : 2 ^ n * (q + 1) ≤ 2 ^ n * 2 ^ (64 - n) := Int.mul_le_mul_of_nonneg_left (by omega) (Int.le_of_lt p)
  rw [hs, Int.mul_add] at h3
  omega
end Go.Proofs.YtbhijfbjdbjpbaaDoor.Q
