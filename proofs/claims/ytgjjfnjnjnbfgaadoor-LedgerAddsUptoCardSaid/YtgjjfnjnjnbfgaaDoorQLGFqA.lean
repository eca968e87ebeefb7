import Derived.Test.YtgjjfnjnjnbfgaaDoorQLGBase
import Derived.Test.YtgjjfnjnjnbfgaaDoorQLGMul
import Derived.Test.YtgjjfnjnjnbfgaaDoorQLGAdd
import Derived.Test.YtgjjfnjnjnbfgaaDoorQLGWShl
import Derived.Test.YtgjjfnjnjnbfgaaDoorQLGWShr
import Derived.Test.YtgjjfnjnjnbfgaaDoorGLGx3
import Derived.Test.YtgjjfnjnjnbfgaaDoorGLGx8
namespace Go.Proofs.YtgjjfnjnjnbfgaaDoor.Q
open Go.RowKit Go.Proofs.YtgjjfnjnjnbfgaaDoor.GLG Go.Proofs.YtgjjfnjnjnbfgaaDoorW.PrintWords Go.Proofs.YtgjjfnjnjnbfgaaDoorW.PrintLast Go.Proofs.YtgjjfnjnjnbfgaaDoorW.PrintMore
theorem fq_of {h l : Int} (hh : 0 ≤ h) (hl : U l) : fixq_of.f h l = some (capV (V h l)) := by
  unfold fixq_of.f fixq_beyond.f capV V
  simp only [Option.bind_some]
  obtain ⟨a, b⟩ := hl
  by_cases c : h > 0
  · rw [if_pos c, if_neg (by omega)]
  · rw [if_neg c, if_pos (by omega)]
    congr 2
    omega
theorem shl32 {x : Int} (hx : U x) : wide_Shl.f 0 x 32 = some (x * 4294967296 / 18446744073709551616, x * 4294967296 % 18446744073709551616) := by
  have := wshl (h := 0) (l := x) ⟨by omega, by omega⟩ hx 32 (by decide) (by decide)
  rw [show ((32 : Nat) : Int) = 32 from rfl] at this
  rw [this]
  unfold shlV
  obtain ⟨a, b⟩ := hx
  congr 2
  simp
  omega
/-- A whole number. -/
def ofV (n : Int) : Int × Bool := if n < 0 then (0, false) else capV (n * 4294967296)
theorem fq_Of {n : Int} (h : n ≤ 9223372036854775807) : fixq_Of.f n = some (ofV n) := by
  unfold fixq_Of.f ofV wide_Of.f
  by_cases c : n < 0
  · rw [if_pos c, if_pos c]
  · rw [if_neg c, if_neg c]
    simp only [Option.bind_some]
    rw [w64_in (by omega) (by omega), shl32 ⟨by omega, by omega⟩]
    simp only [Option.bind_some]
    rw [fq_of (by omega) (umod _)]
    simp only [Option.bind_some]
    rw [show V (n * 4294967296 / 18446744073709551616) (n * 4294967296 % 18446744073709551616) = n * 4294967296 by unfold V; omega]
theorem fq_add {a b : Int} (ha : U a) (hb : U b) : fixq_Add.f a b = some (capV (a + b)) := by
  unfold fixq_Add.f wide_Of.f
  simp only [Option.bind_some]
  rw [wadd ⟨by omega, by omega⟩ ha ⟨by omega, by omega⟩ hb]
  simp only [Option.bind_some]
  obtain ⟨a0, a1⟩ := ha; obtain ⟨b0, b1⟩ := hb
  have e1 : V 0 a + V 0 b = a + b := by unfold V; omega
  unfold addV
  rw [e1, if_pos (by omega)]
  simp only []
  rw [fq_of (by omega) (umod _)]
  simp only [Option.bind_some]
  rw [show V ((a + b) / 18446744073709551616) ((a + b) % 18446744073709551616) = a + b by unfold V; omega]
/-- A part of a number. -/
def partV (a f : Int) : Int := a * (if f > 9223372036854775808 then 9223372036854775808 else f) / 9223372036854775808
theorem part_le {a f : Int} (ha : U a) (hf : U f) : 0 ≤ partV a f ∧ partV a f ≤ a := by
  unfold partV
  obtain ⟨a0, a1⟩ := ha; obtain ⟨f0, f1⟩ := hf
  have hm : ∃ g, (if f > 9223372036854775808 then 9223372036854775808 else f) = g ∧ 0 ≤ g ∧ g ≤ 9223372036854775808 := by
    split
    · exact ⟨_, rfl, by omega, by omega⟩
    · exact ⟨_, rfl, by omega, by omega⟩
  obtain ⟨g, hg, g0, g1⟩ := hm
  rw [hg]
  have p0 : 0 ≤ a * g := Int.mul_nonneg a0 g0
  have p1 : a * g ≤ a * 9223372036854775808 := Int.mul_le_mul_of_nonneg_left g1 a0
  omega
theorem fq_part {a f : Int} (ha : U a) (hf : U f) : fixq_Part.f a f = some (partV a f) := by
  unfold fixq_Part.f
  have hl := part_le ha hf
  unfold partV at hl ⊢
  have hm : ∃ g, (if f > 9223372036854775808 then 9223372036854775808 else f) = g ∧ mn f 9223372036854775808 = g ∧ 0 ≤ g ∧ g ≤ 9223372036854775808 := by
    unfold mn
    obtain ⟨f0, f1⟩ := hf
    by_cases c : f > 9223372036854775808
    · rw [if_pos c]; exact ⟨_, rfl, rfl, by omega, by omega⟩
    · rw [if_neg c]; exact ⟨_, rfl, rfl, by omega, by omega⟩
  obtain ⟨g, hg, hg2, g0, g1⟩ := hm
  rw [hg] at hl ⊢
  rw [hg2]
  have hg' : U g := ⟨g0, by omega⟩
  have m := mul_bd ha hg'
  rw [wmul ha hg']
  simp only [Option.bind_some]
  have := wshr (h := a * g / 18446744073709551616) (l := a * g % 18446744073709551616) ⟨by omega, by omega⟩ (umod _) 63 (by decide) (by decide)
  rw [show ((63 : Nat) : Int) = 63 from rfl] at this
  rw [this]
  unfold shrV
  simp only [Option.bind_some]
  obtain ⟨a0, a1⟩ := ha
  congr 1
  simp
  omega
end Go.Proofs.YtgjjfnjnjnbfgaaDoor.Q
