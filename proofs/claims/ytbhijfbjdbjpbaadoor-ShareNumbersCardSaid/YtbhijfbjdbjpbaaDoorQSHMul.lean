import Derived.Test.YtbhijfbjdbjpbaaDoorQSHBase
import Derived.Test.YtbhijfbjdbjpbaaDoorGSHx3
namespace Go.Proofs.YtbhijfbjdbjpbaaDoor.Q
open Go.RowKit Go.Proofs.YtbhijfbjdbjpbaaDoor.GSH Go.Proofs.YtbhijfbjdbjpbaaDoorW.PrintWords Go.Proofs.YtbhijfbjdbjpbaaDoorW.PrintLast Go.Proofs.YtbhijfbjdbjpbaaDoorW.PrintMore

theorem mul64 {a b : Int} (ha : U a) (hb : U b) : bits_Mul64.f a b = some (a * b / 18446744073709551616, a * b % 18446744073709551616) := by
  unfold bits_Mul64.f
  have e := mul_halves a b
  obtain ⟨a0, a1⟩ := ha
  obtain ⟨b0, b1⟩ := hb
  rw [and32 ⟨a0, a1⟩, and32 ⟨b0, b1⟩]
  have p1 := half_bd (x := a / 4294967296) (y := b / 4294967296) (by omega) (by omega) (by omega) (by omega)
  have p2 := half_bd (x := a / 4294967296) (y := b % 4294967296) (by omega) (by omega) (by omega) (by omega)
  have p3 := half_bd (x := a % 4294967296) (y := b / 4294967296) (by omega) (by omega) (by omega) (by omega)
  have p4 := half_bd (x := a % 4294967296) (y := b % 4294967296) (by omega) (by omega) (by omega) (by omega)
  generalize (a / 4294967296) * (b / 4294967296) = x1 at *
  generalize (a / 4294967296) * (b % 4294967296) = x2 at *
  generalize (a % 4294967296) * (b / 4294967296) = x3 at *
  generalize (a % 4294967296) * (b % 4294967296) = x4 at *
  generalize a * b = y at *
  rw [w64_in (x := x4) (by omega) (by omega), w64_in (x := x2) (by omega) (by omega), w64_in (x := x3) (by omega) (by omega), w64_in (x := x1) (by omega) (by omega)]
  rw [w64_in (x := x2 + x4 / 4294967296) (by omega) (by omega), and32 (x := x2 + x4 / 4294967296) ⟨by omega, by omega⟩]
  simp only [w64]
  congr 2
  omega
theorem wmul {a b : Int} (ha : U a) (hb : U b) : wide_Mul.f a b = some (a * b / 18446744073709551616, a * b % 18446744073709551616) := by
  unfold wide_Mul.f
  rw [mul64 ha hb]; rfl
end Go.Proofs.YtbhijfbjdbjpbaaDoor.Q
