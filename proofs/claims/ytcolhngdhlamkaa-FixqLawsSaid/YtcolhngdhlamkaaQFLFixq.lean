import Derived.Test.YtcolhngdhlamkaaQFLFqA
import Derived.Test.YtcolhngdhlamkaaQFLBase
import Derived.Test.YtcolhngdhlamkaaQFLMul
import Derived.Test.YtcolhngdhlamkaaQFLAdd
import Derived.Test.YtcolhngdhlamkaaQFLWShl
import Derived.Test.YtcolhngdhlamkaaQFLWShr
import Derived.Test.YtcolhngdhlamkaaQFLDiv
import Derived.Test.YtcolhngdhlamkaaGFLx3
import Derived.Test.YtcolhngdhlamkaaGFLx4
import Derived.Test.YtcolhngdhlamkaaGFLx6
namespace Go.Proofs.Ytcolhngdhlamkaa.Q
open Go.RowKit Go.Proofs.Ytcolhngdhlamkaa.GFL Go.Proofs.YtcolhngdhlamkaaW.PrintWords Go.Proofs.YtcolhngdhlamkaaW.PrintLast Go.Proofs.YtcolhngdhlamkaaW.PrintMore

theorem fq_up {v : Int} (k : Nat) (hk : 1 ≤ k) (hv : 0 ≤ v) (lost : Bool) : fixq_answer_up.f k (capV v).1 (capV v).2 lost = some (capV (v + if lost = true then 1 else 0)) := by
  obtain ⟨k, rfl⟩ : ∃ m, k = m + 1 := ⟨k - 1, by omega⟩
  unfold fixq_answer_up.f
  cases lost with
  | false =>
    simp only [fixq_answer_up.j0]
    simp
  | true =>
    simp only [fixq_answer_up.j0, fixq_beyond.f, fixq_last.f, Option.bind_some, if_true]
    unfold capV
    by_cases c : v < 18446744073709551616
    · rw [if_pos c]
      by_cases d : v = 18446744073709551615
      · subst d
        simp
      · rw [if_neg (by simp), if_neg (by simpa using d), if_pos (show v + 1 < 18446744073709551616 by omega), w64_in (by omega) (by omega)]
    · rw [if_neg c, if_neg (show ¬ v + 1 < 18446744073709551616 by omega)]
      simp
theorem shr32 {x : Int} (h0 : 0 ≤ x) (h1 : x ≤ 340282366920938463426481119284349108225) : wide_Shr.f (x / 18446744073709551616) (x % 18446744073709551616) 32 = some (x / 4294967296 / 18446744073709551616, x / 4294967296 % 18446744073709551616) := by
  have := wshr (h := x / 18446744073709551616) (l := x % 18446744073709551616) ⟨by omega, by omega⟩ (umod _) 32 (by decide) (by decide)
  rw [show ((32 : Nat) : Int) = 32 from rfl] at this
  rw [this]
  unfold shrV
  congr 2 <;> simp <;> omega
/-- A product, rounded down or up. -/
def mulV (a b : Int) (up : Bool) : Int := a * b / 4294967296 + if (up && decide (a * b % 4294967296 > 0)) = true then 1 else 0
theorem fq_mul {a b : Int} (k : Nat) (hk : 1 ≤ k) (ha : U a) (hb : U b) (up : Bool) : fixq_mul.f k a b up = some (capV (mulV a b up)) := by
  unfold fixq_mul.f mulV
  have m := mul_bd ha hb
  rw [wmul ha hb]
  simp only [Option.bind_some]
  rw [shr32 m.1 m.2]
  simp only [Option.bind_some]
  rw [fq_of (by omega) (umod _)]
  simp only [Option.bind_some]
  rw [show V (a * b / 4294967296 / 18446744073709551616) (a * b / 4294967296 % 18446744073709551616) = a * b / 4294967296 by unfold V; omega]
  have e : decide (IntKind.u64.wrap (a * b % 18446744073709551616 * 4294967296) > 0) = decide (a * b % 4294967296 > 0) := by
    rw [w64]; congr 1; apply propext; omega
  cases up with
  | true =>
    rw [if_pos rfl, e, fq_up k hk (by omega)]
    simp
  | false =>
    rw [if_neg (by decide), fq_up k hk (by omega)]
    simp
theorem fq_mulDown {a b : Int} (k : Nat) (hk : 1 ≤ k) (ha : U a) (hb : U b) : fixq_MulDown.f k a b = some (capV (mulV a b false)) := by
  unfold fixq_MulDown.f
  rw [fq_mul k hk ha hb]; rfl
theorem fq_mulUp {a b : Int} (k : Nat) (hk : 1 ≤ k) (ha : U a) (hb : U b) : fixq_MulUp.f k a b = some (capV (mulV a b true)) := by
  unfold fixq_MulUp.f
  rw [fq_mul k hk ha hb]; rfl
/-- A quotient, rounded down or up. -/
def divV (a b : Int) (up : Bool) : Int × Bool := if b = 0 then (18446744073709551615, false) else capV (a * 4294967296 / b + if (up && decide (a * 4294967296 % b > 0)) = true then 1 else 0)
theorem fq_div {a b : Int} (k : Nat) (hk : 20 ≤ k) (ha : U a) (hb : U b) (up : Bool) : fixq_div.f k a b up = some (divV a b up) := by
  unfold fixq_div.f divV wide_Of.f
  simp only [Option.bind_some]
  rw [shl32 ha]
  simp only [Option.bind_some]
  by_cases hz : b = 0
  · subst hz
    rw [wdiv0]
    simp only [Option.bind_some, fixq_beyond.f]
    rw [fq_of (by omega) ⟨by omega, by omega⟩]
    simp only [Option.bind_some]
    cases up <;> simp [fq_up (v := V 0 0) k (by omega) (by unfold V; omega)]
  · obtain ⟨a0, a1⟩ := ha
    rw [wdiv k hk ⟨by omega, by omega⟩ (umod _) hb hz]
    simp only [Option.bind_some]
    have hv : V (a * 4294967296 / 18446744073709551616) (a * 4294967296 % 18446744073709551616) = a * 4294967296 := by unfold V; omega
    rw [hv]
    have d0 : 0 ≤ a * 4294967296 / b := Int.ediv_nonneg (by omega) hb.1
    rw [fq_of (by omega) (umod _)]
    simp only [Option.bind_some]
    rw [show V (a * 4294967296 / b / 18446744073709551616) (a * 4294967296 / b % 18446744073709551616) = a * 4294967296 / b by unfold V; omega, if_neg hz]
    cases up with
    | true =>
      rw [if_pos rfl, fq_up k (by omega) d0]
      simp
    | false =>
      rw [if_neg (by decide), fq_up k (by omega) d0]
      simp
theorem fq_divDown {a b : Int} (k : Nat) (hk : 20 ≤ k) (ha : U a) (hb : U b) : fixq_DivDown.f k a b = some (divV a b false) := by
  unfold fixq_DivDown.f
  rw [fq_div k hk ha hb]; rfl
theorem fq_divUp {a b : Int} (k : Nat) (hk : 20 ≤ k) (ha : U a) (hb : U b) : fixq_DivUp.f k a b = some (divV a b true) := by
  unfold fixq_DivUp.f
  rw [fq_div k hk ha hb]; rfl
theorem fq_sub {a b : Int} (ha : U a) (hb : U b) : fixq_Sub.f a b = some (if b > a then (0, false) else (a - b, true)) := by
  unfold fixq_Sub.f
  obtain ⟨a0, a1⟩ := ha; obtain ⟨b0, b1⟩ := hb
  by_cases c : b > a
  · rw [if_pos c, if_pos c]
  · rw [if_neg c, if_neg c, w64_in (by omega) (by omega)]
theorem fq_floor {a : Int} (ha : U a) : fixq_Floor.f a = some (a / 4294967296) := by
  unfold fixq_Floor.f
  obtain ⟨a0, a1⟩ := ha
  rw [wrap64_in (by omega) (by omega)]
end Go.Proofs.Ytcolhngdhlamkaa.Q
