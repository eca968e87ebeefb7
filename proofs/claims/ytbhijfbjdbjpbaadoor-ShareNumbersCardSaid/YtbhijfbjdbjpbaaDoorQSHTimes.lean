import Derived.Test.YtbhijfbjdbjpbaaDoorQSHBase
import Derived.Test.YtbhijfbjdbjpbaaDoorQSHAdd
import Derived.Test.YtbhijfbjdbjpbaaDoorQSHMul
import Derived.Test.YtbhijfbjdbjpbaaDoorGSHx3
import Derived.Test.YtbhijfbjdbjpbaaDoorGSHx4
namespace Go.Proofs.YtbhijfbjdbjpbaaDoor.Q
open Go.RowKit Go.Proofs.YtbhijfbjdbjpbaaDoor.GSH Go.Proofs.YtbhijfbjdbjpbaaDoorW.PrintWords Go.Proofs.YtbhijfbjdbjpbaaDoorW.PrintLast Go.Proofs.YtbhijfbjdbjpbaaDoorW.PrintMore
theorem umod' (x : Int) : U (x % 18446744073709551616) := ⟨by omega, by omega⟩
/-- A product of three words. -/
def timesV (h l y : Int) : Int × Int × Bool := if h * y / 18446744073709551616 > 0 then (18446744073709551615, 18446744073709551615, false) else addV (l * y) (V (h * y % 18446744073709551616) 0)
theorem wtimes {h l y : Int} (hh : U h) (hl : U l) (hy : U y) : wide_Times.f h l y = some (timesV h l y) := by
  unfold wide_Times.f timesV
  rw [wmul hl hy, wmul hh hy]
  simp only [Option.bind_some]
  have m1 := mul_bd hl hy
  by_cases c : h * y / 18446744073709551616 > 0
  · rw [if_pos c, if_pos c]; rfl
  · rw [if_neg c, if_neg c, wadd ⟨by omega, by omega⟩ (umod' _) (umod' _) ⟨by omega, by omega⟩]
    simp only [Option.bind_some]
    rw [show V (l * y / 18446744073709551616) (l * y % 18446744073709551616) = l * y by unfold V; omega]
theorem times_fits {q y : Int} (hq : 0 ≤ q) (hy : 0 ≤ y) (hb : q * y < 340282366920938463463374607431768211456) : timesV (q / 18446744073709551616) (q % 18446744073709551616) y = (q * y / 18446744073709551616, q * y % 18446744073709551616, true) := by
  unfold timesV
  have e : q * y = q / 18446744073709551616 * y * 18446744073709551616 + q % 18446744073709551616 * y := by
    have : q = q / 18446744073709551616 * 18446744073709551616 + q % 18446744073709551616 := by omega
    generalize q / 18446744073709551616 = a at *
    generalize q % 18446744073709551616 = b at *
    subst this
    grind
  have n1 : 0 ≤ q / 18446744073709551616 * y := Int.mul_nonneg (by omega) hy
  have n2 : 0 ≤ q % 18446744073709551616 * y := Int.mul_nonneg (by omega) hy
  generalize q / 18446744073709551616 * y = A at *
  generalize q % 18446744073709551616 * y = B at *
  rw [if_neg (by omega)]
  have hs : B + V (A % 18446744073709551616) 0 = q * y := by unfold V; omega
  unfold addV
  rw [hs, if_pos hb]
end Go.Proofs.YtbhijfbjdbjpbaaDoor.Q
