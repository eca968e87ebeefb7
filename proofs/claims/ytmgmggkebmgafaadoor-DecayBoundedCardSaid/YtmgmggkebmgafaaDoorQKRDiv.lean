import Derived.Test.YtmgmggkebmgafaaDoorQKBase
import Derived.Test.YtmgmggkebmgafaaDoorQKSh
import Derived.Test.YtmgmggkebmgafaaDoorQKRShl
import Derived.Test.YtmgmggkebmgafaaDoorGKx3
namespace Go.Proofs.YtmgmggkebmgafaaDoor.Q
open Go.RowKit Go.Proofs.YtmgmggkebmgafaaDoor.GK Go.Proofs.YtmgmggkebmgafaaDoorW.PrintWords Go.Proofs.YtmgmggkebmgafaaDoorW.PrintLast Go.Proofs.YtmgmggkebmgafaaDoorW.PrintMore

/-- Long division by bits: what is left of the digits, the quotient and the rest so far. -/
def divS (b : Int) : Nat → Int → Int → Int → Int × Int
  | 0, rest, _, q => (q, rest)
  | d + 1, rest, x, q => if 2 * rest + x / 170141183460469231731687303715884105728 ≥ b then divS b d (2 * rest + x / 170141183460469231731687303715884105728 - b) (2 * x % 340282366920938463463374607431768211456) (2 * q + 1)
      else divS b d (2 * rest + x / 170141183460469231731687303715884105728) (2 * x % 340282366920938463463374607431768211456) (2 * q)
theorem divS_eq {b : Int} (hb : 0 < b) (d : Nat) : ∀ (rest x q A : Int), 0 ≤ rest → rest < b → 0 ≤ x → x < 340282366920938463463374607431768211456 → x * 2 ^ d = A * 340282366920938463463374607431768211456 →
    divS b d rest x q = (q * 2 ^ d + (rest * 2 ^ d + A) / b, (rest * 2 ^ d + A) % b) := by
  induction d with
  | zero =>
    intro rest x q A h0 h1 h2 h3 h4
    have hA : A = 0 := by omega
    subst hA
    simp only [divS]
    rw [show rest * 2 ^ 0 + 0 = rest by omega, Int.ediv_eq_zero_of_lt h0 h1, Int.emod_eq_of_lt h0 h1]
    congr 1
    omega
  | succ d ih =>
    intro rest x q A h0 h1 h2 h3 h4
    have hp : (2 : Int) ^ (d + 1) = 2 * 2 ^ d := by rw [Int.pow_succ, Int.mul_comm]
    rw [hp] at h4 ⊢
    simp only [divS]
    have hx : ∃ t X, (t = 0 ∨ t = 1) ∧ x = t * 170141183460469231731687303715884105728 + X ∧ 0 ≤ X ∧ X < 170141183460469231731687303715884105728 := ⟨x / 170141183460469231731687303715884105728, x % 170141183460469231731687303715884105728, by omega, by omega, by omega, by omega⟩
    obtain ⟨t, X, ht, rfl, hX0, hX1⟩ := hx
    generalize hT : (2 : Int) ^ d = T at *
    have e1 : (t * 170141183460469231731687303715884105728 + X) / 170141183460469231731687303715884105728 = t := by omega
    have e2 : 2 * (t * 170141183460469231731687303715884105728 + X) % 340282366920938463463374607431768211456 = 2 * X := by omega
    rw [e1, e2]
    have h5 : (2 * X) * T = (A - t * T) * 340282366920938463463374607431768211456 := by
      have : (t * 170141183460469231731687303715884105728 + X) * (2 * T) = t * T * 340282366920938463463374607431768211456 + 2 * X * T := by
        rw [Int.add_mul]
        congr 1
        · rcases ht with rfl | rfl <;> omega
        · rw [Int.mul_left_comm, Int.mul_assoc]
      rw [this] at h4
      rw [Int.sub_mul]
      omega
    have r2 : (2 * rest + t) * T = 2 * (rest * T) + t * T := by rw [Int.add_mul, Int.mul_assoc]
    have r3 : rest * (2 * T) = 2 * (rest * T) := by rw [Int.mul_left_comm]
    by_cases c : 2 * rest + t ≥ b
    · rw [if_pos c, ih _ _ _ (A - t * T) (by omega) (by omega) (by omega) (by omega) h5, Int.sub_mul, r2, r3]
      have e3 : 2 * (rest * T) + A = (2 * (rest * T) + t * T - b * T + (A - t * T)) + b * T := by omega
      rw [e3, Int.add_mul_ediv_left _ _ (by omega), Int.add_mul_emod_self_left]
      congr 1
      rw [Int.add_mul, Int.mul_assoc, Int.mul_left_comm q 2 T]
      omega
    · rw [if_neg c, ih _ _ _ (A - t * T) (by omega) (by omega) (by omega) (by omega) h5, r2, r3]
      have e3 : 2 * (rest * T) + A = 2 * (rest * T) + t * T + (A - t * T) := by omega
      rw [e3, Int.mul_assoc, Int.mul_left_comm q 2 T]
theorem shl1V {h l : Int} (hh : U h) (hl : U l) : backfillref01_Shl.f h l 1 = some (2 * V h l % 340282366920938463463374607431768211456 / 18446744073709551616, 2 * V h l % 18446744073709551616) := by
  have := rshl hh hl 1 (by decide) (by decide)
  rw [show ((1 : Nat) : Int) = 1 from rfl] at this
  rw [this]
  unfold shlV V
  obtain ⟨a, b⟩ := hh; obtain ⟨c, d⟩ := hl
  congr 2 <;> simp <;> omega
theorem rdiv_l0 {b : Int} (hb : U b) (hb0 : 0 < b) (d : Nat) : ∀ (k : Nat) (i rest ah al qh ql : Int), d < k → d ≤ 128 → i = 128 - (d : Int) → U ah → U al → U qh → U ql → 0 ≤ rest → rest < b → (V qh ql + 1) * 2 ^ d ≤ 340282366920938463463374607431768211456 →
    backfillref01_Div.l0 k b rest i ah al qh ql = some ((divS b d rest (V ah al) (V qh ql)).1 / 18446744073709551616, (divS b d rest (V ah al) (V qh ql)).1 % 18446744073709551616, (divS b d rest (V ah al) (V qh ql)).2, true) := by
  induction d with
  | zero =>
    intro k i rest ah al qh ql hk _ hi h1 h2 h3 h4 h5 h6 h7
    obtain ⟨k, rfl⟩ : ∃ m, k = m + 1 := ⟨k - 1, by omega⟩
    simp only [backfillref01_Div.l0, divS]
    rw [if_neg (by omega), V_hi h4, V_lo h4]
  | succ d ih =>
    intro k i rest ah al qh ql hk hd hi h1 h2 h3 h4 h5 h6 h7
    obtain ⟨k, rfl⟩ : ∃ m, k = m + 1 := ⟨k - 1, by omega⟩
    simp only [backfillref01_Div.l0]
    rw [if_pos (by omega), shl1V h1 h2, shl1V h3 h4]
    simp only [Option.bind_some]
    have hT : (0 : Int) < 2 ^ d := pow_pos_ d
    have hp : (2 : Int) ^ (d + 1) = 2 * 2 ^ d := by rw [Int.pow_succ, Int.mul_comm]
    rw [hp] at h7
    obtain ⟨h1a, h1b⟩ := h1; obtain ⟨h2a, h2b⟩ := h2; obtain ⟨h3a, h3b⟩ := h3; obtain ⟨h4a, h4b⟩ := h4; obtain ⟨hba, hbb⟩ := hb
    have hQ : 2 * V qh ql + 2 ≤ 340282366920938463463374607431768211456 := by
      have : (V qh ql + 1) * (2 * 1) ≤ (V qh ql + 1) * (2 * 2 ^ d) := Int.mul_le_mul_of_nonneg_left (by omega) (by unfold V; omega)
      omega
    have hbit : V ah al / 170141183460469231731687303715884105728 = ah / 9223372036854775808 := by unfold V; omega
    have hA : V (2 * V ah al % 340282366920938463463374607431768211456 / 18446744073709551616) (2 * V ah al % 18446744073709551616) = 2 * V ah al % 340282366920938463463374607431768211456 := by unfold V; omega
    have hQ0 : V (2 * V qh ql % 340282366920938463463374607431768211456 / 18446744073709551616) (2 * V qh ql % 18446744073709551616) = 2 * V qh ql := by unfold V at hQ ⊢; omega
    have hQ1 : V (2 * V qh ql % 340282366920938463463374607431768211456 / 18446744073709551616) (IntKind.u64.wrap (2 * V qh ql % 18446744073709551616 + 1)) = 2 * V qh ql + 1 := by rw [w64]; unfold V at hQ ⊢; omega
    have m0 : (2 * V qh ql + 1) * 2 ^ d ≤ 340282366920938463463374607431768211456 := by
      have : (2 * V qh ql + 1) * 2 ^ d ≤ (V qh ql + 1) * (2 * 2 ^ d) := by
        rw [Int.mul_left_comm, ← Int.mul_assoc]
        exact Int.mul_le_mul_of_nonneg_right (by omega) (by omega)
      omega
    have m1 : (2 * V qh ql + 1 + 1) * 2 ^ d ≤ 340282366920938463463374607431768211456 := by
      have : (2 * V qh ql + 1 + 1) * 2 ^ d ≤ (V qh ql + 1) * (2 * 2 ^ d) := by
        rw [Int.mul_left_comm, ← Int.mul_assoc]
        exact Int.mul_le_mul_of_nonneg_right (by omega) (by omega)
      omega
    have v0 : 0 ≤ V ah al ∧ V ah al < 340282366920938463463374607431768211456 := by unfold V; omega
    have v1 : 0 ≤ V qh ql ∧ V qh ql < 340282366920938463463374607431768211456 := by unfold V; omega
    have wi : wrap64 (i + 1) = i + 1 := wrap64_in (by omega) (by omega)
    have yes : (IntKind.u64.wrap ((IntKind.u64.wrap ((IntKind.u64.wrap (rest * 2)) + (ah / 9223372036854775808))) - b)) = (2 * rest + ah / 9223372036854775808 - b) % 18446744073709551616 := by
      simp only [w64]; omega
    simp only [divS]
    rw [hbit, wi, yes]
    by_cases c : rest / 9223372036854775808 = 1
    · rw [if_pos c, if_pos (by omega)]
      rw [show (2 * rest + ah / 9223372036854775808 - b) % 18446744073709551616 = 2 * rest + ah / 9223372036854775808 - b by omega]
      rw [ih k (i + 1) _ _ _ _ _ (by omega) (by omega) (by omega) ⟨by omega, by omega⟩ (umod _) ⟨by omega, by omega⟩ ⟨by rw [w64]; omega, by rw [w64]; omega⟩ (by omega) (by omega) (by rw [hQ1]; exact m1), hA, hQ1]
    · rw [if_neg c]
      have w1 : IntKind.u64.wrap ((IntKind.u64.wrap (rest * 2)) + (ah / 9223372036854775808)) = 2 * rest + ah / 9223372036854775808 := by simp only [w64]; omega
      rw [w1]
      by_cases c2 : 2 * rest + ah / 9223372036854775808 ≥ b
      · rw [if_pos c2, if_pos c2]
        rw [show (2 * rest + ah / 9223372036854775808 - b) % 18446744073709551616 = 2 * rest + ah / 9223372036854775808 - b by omega]
        rw [ih k (i + 1) _ _ _ _ _ (by omega) (by omega) (by omega) ⟨by omega, by omega⟩ (umod _) ⟨by omega, by omega⟩ ⟨by rw [w64]; omega, by rw [w64]; omega⟩ (by omega) (by omega) (by rw [hQ1]; exact m1), hA, hQ1]
      · rw [if_neg c2, if_neg c2]
        rw [ih k (i + 1) _ _ _ _ _ (by omega) (by omega) (by omega) ⟨by omega, by omega⟩ (umod _) ⟨by omega, by omega⟩ (umod _) (by omega) (by omega) (by rw [hQ0]; exact m0), hA, hQ0]
theorem rdiv {ah al b : Int} (k : Nat) (hk : 129 ≤ k) (h1 : U ah) (h2 : U al) (hb : U b) (hb0 : b ≠ 0) :
    backfillref01_Div.f k ah al b = some (V ah al / b / 18446744073709551616, V ah al / b % 18446744073709551616, V ah al % b, true) := by
  unfold backfillref01_Div.f
  have hb1 : 0 < b := by have := hb.1; omega
  rw [if_neg hb0, rdiv_l0 hb hb1 128 k 0 0 ah al 0 0 (by omega) (by omega) (by omega) h1 h2 ⟨by omega, by omega⟩ ⟨by omega, by omega⟩ (by omega) (by omega) (by decide)]
  have v0 : 0 ≤ V ah al ∧ V ah al < 340282366920938463463374607431768211456 := by
    obtain ⟨h1a, h1b⟩ := h1; obtain ⟨h2a, h2b⟩ := h2
    unfold V; omega
  rw [divS_eq hb1 128 0 (V ah al) (V 0 0) (V ah al) (by omega) hb1 v0.1 v0.2 (by rfl)]
  simp [V]
theorem rdiv0 {ah al : Int} (k : Nat) : backfillref01_Div.f k ah al 0 = some (0, 0, 0, false) := by
  unfold backfillref01_Div.f
  rw [if_pos rfl]
end Go.Proofs.YtmgmggkebmgafaaDoor.Q
