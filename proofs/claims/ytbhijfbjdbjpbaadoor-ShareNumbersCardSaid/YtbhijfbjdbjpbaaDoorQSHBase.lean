import Derived.Test.YtbhijfbjdbjpbaaDoorWSHMore
import Derived.Laws.BitsLemmas
namespace Go.Proofs.YtbhijfbjdbjpbaaDoor.Q
open Go.RowKit Go.Proofs.YtbhijfbjdbjpbaaDoorW.PrintWords Go.Proofs.YtbhijfbjdbjpbaaDoorW.PrintLast Go.Proofs.YtbhijfbjdbjpbaaDoorW.PrintMore

/-- A word of 64 bits. -/
def U (x : Int) : Prop := 0 ≤ x ∧ x < 18446744073709551616
theorem w64 (x : Int) : IntKind.u64.wrap x = x % 18446744073709551616 := by simp [IntKind.wrap, IntKind.bits, IntKind.signed]
theorem w64_in {x : Int} (h0 : 0 ≤ x) (h1 : x < 18446744073709551616) : IntKind.u64.wrap x = x := by rw [w64]; omega
theorem wraps_u64 (n : Int) (h0 : 0 ≤ n) (h1 : n < 2 ^ 64) : IntKind.u64.wrap n = n := by rw [w64]; omega
theorem and32 {x : Int} (h : U x) : Go.bits .and .u64 x 4294967295 = x % 4294967296 :=
  bits_mask .u64 64 (by decide) wraps_u64 32 (by decide) x h.1 (by have := h.2; omega)
theorem and1 {x : Int} (h : U x) : Go.bits .and .u64 x 1 = x % 2 :=
  bits_mask .u64 64 (by decide) wraps_u64 1 (by decide) x h.1 (by have := h.2; omega)
theorem or_add {x y : Int} (i : Nat) (hx : U x) (hm : x % 2 ^ i = 0) (hy0 : 0 ≤ y) (hy : y < 2 ^ i) (hy1 : y < 18446744073709551616) : Go.bits .or .u64 x y = x + y :=
  bits_join .u64 64 (by decide) wraps_u64 i x y hx.1 hm (by have := hx.2; omega) hy0 hy (by omega)
theorem shr_at {x : Int} (n : Nat) (h : n ≤ 64) : shr .u64 x (n : Int) = x / 2 ^ n := by unfold shr; rw [Int.toNat_natCast, show min n IntKind.u64.bits = n from Nat.min_eq_left h]
theorem shl_at {x : Int} (n : Nat) (h : n ≤ 64) : shl .u64 x (n : Int) = (x * 2 ^ n) % 18446744073709551616 := by unfold shl; rw [Int.toNat_natCast, show min n IntKind.u64.bits = n from Nat.min_eq_left h, w64]
theorem wrap64_in {x : Int} (h0 : -9223372036854775808 ≤ x) (h1 : x ≤ 9223372036854775807) : wrap64 x = x := by unfold wrap64; omega
theorem tdiv_eq {a b : Int} (h : 0 ≤ a) : Int.tdiv a b = a / b := Int.tdiv_eq_ediv_of_nonneg h
theorem tmod_eq {a b : Int} (h : 0 ≤ a) : Int.tmod a b = a % b := Int.tmod_eq_emod_of_nonneg h

/-- The product of two words by halves. -/
theorem mul_halves (a b : Int) : a * b = (a / 4294967296) * (b / 4294967296) * 18446744073709551616 + ((a / 4294967296) * (b % 4294967296) + (a % 4294967296) * (b / 4294967296)) * 4294967296 + (a % 4294967296) * (b % 4294967296) := by
  have ha : a = (a / 4294967296) * 4294967296 + a % 4294967296 := by omega
  have hb : b = (b / 4294967296) * 4294967296 + b % 4294967296 := by omega
  generalize a / 4294967296 = p at *
  generalize a % 4294967296 = q at *
  generalize b / 4294967296 = r at *
  generalize b % 4294967296 = s at *
  subst ha hb
  have e : (p * 4294967296 + q) * (r * 4294967296 + s) = p * r * (4294967296 * 4294967296) + (p * s + q * r) * 4294967296 + q * s := by
    simp only [Int.add_mul, Int.mul_add]
    have h1 : p * 4294967296 * (r * 4294967296) = p * r * (4294967296 * 4294967296) := by rw [Int.mul_assoc, Int.mul_left_comm 4294967296, ← Int.mul_assoc p]
    have h2 : p * 4294967296 * s = p * s * 4294967296 := by rw [Int.mul_right_comm]
    have h3 : q * (r * 4294967296) = q * r * 4294967296 := by rw [Int.mul_assoc]
    rw [h1, h2, h3]
    omega
  rw [e]
  omega
theorem half_bd {x y : Int} (hx0 : 0 ≤ x) (hx : x < 4294967296) (hy0 : 0 ≤ y) (hy : y < 4294967296) : 0 ≤ x * y ∧ x * y ≤ 18446744065119617025 := by
  refine ⟨Int.mul_nonneg hx0 hy0, ?_⟩
  have h1 : x * y ≤ 4294967295 * y := Int.mul_le_mul_of_nonneg_right (by omega) hy0
  omega
theorem mul_bd {x y : Int} (hx : U x) (hy : U y) : 0 ≤ x * y ∧ x * y ≤ 340282366920938463426481119284349108225 := by
  refine ⟨Int.mul_nonneg hx.1 hy.1, ?_⟩
  have h1 : x * y ≤ 18446744073709551615 * y := Int.mul_le_mul_of_nonneg_right (by have := hx.2; omega) hy.1
  have := hy.2
  omega
/-- A number of two words. -/
def V (h l : Int) : Int := h * 18446744073709551616 + l
theorem V_hi {h l : Int} (hl : U l) : V h l / 18446744073709551616 = h := by unfold V; have := hl.1; have := hl.2; omega
theorem V_lo {h l : Int} (hl : U l) : V h l % 18446744073709551616 = l := by unfold V; have := hl.1; have := hl.2; omega
def addV (x y : Int) : Int × Int × Bool := if x + y < 340282366920938463463374607431768211456 then ((x + y) / 18446744073709551616, (x + y) % 18446744073709551616, true) else (18446744073709551615, 18446744073709551615, false)
def subV (x y : Int) : Int × Int × Bool := if x < y then (0, 0, false) else ((x - y) / 18446744073709551616, (x - y) % 18446744073709551616, true)
/-- A number, if a word holds it. -/
def capV (v : Int) : Int × Bool := if v < 18446744073709551616 then (v, true) else (18446744073709551615, false)
def cmpV (x y : Int) : Int := if x < y then -1 else if x = y then 0 else 1
theorem or_comm_ (k : IntKind) (x y : Int) : Go.bits .or k x y = Go.bits .or k y x := by unfold Go.bits; simp only [BitVec.or_comm]
theorem wf_u {a : Int} (h : (Lit.int .u64 a).wf = true) : U a := by
  simp [Lit.wf, IntKind.min, IntKind.max, IntKind.bits, IntKind.signed] at h
  exact ⟨h.1, by omega⟩
theorem wf_i {a : Int} (h : (Lit.int .i64 a).wf = true) : -9223372036854775808 ≤ a ∧ a ≤ 9223372036854775807 := by
  simp [Lit.wf, IntKind.min, IntKind.max, IntKind.bits, IntKind.signed] at h
  omega
end Go.Proofs.YtbhijfbjdbjpbaaDoor.Q
