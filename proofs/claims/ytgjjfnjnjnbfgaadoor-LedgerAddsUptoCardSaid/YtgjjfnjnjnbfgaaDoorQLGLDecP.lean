import Derived.Test.YtgjjfnjnjnbfgaaDoorQLGFqA
import Derived.Test.YtgjjfnjnjnbfgaaDoorQLGLad
import Derived.Test.YtgjjfnjnjnbfgaaDoorGLGx8
namespace Go.Proofs.YtgjjfnjnjnbfgaaDoor.Q
open Go.RowKit Go.Proofs.YtgjjfnjnjnbfgaaDoor.GLG Go.Proofs.YtgjjfnjnjnbfgaaDoorW.PrintWords Go.Proofs.YtgjjfnjnjnbfgaaDoorW.PrintLast Go.Proofs.YtgjjfnjnjnbfgaaDoorW.PrintMore

/-- How many halvings a period brings. -/
def expV (p h : Int) : Int := p * 4294967296 / h
theorem exp_bd {p h : Int} (p0 : 1 ≤ p) (p1 : p ≤ 1048576) (h0 : 1 ≤ h) : 0 ≤ expV p h ∧ expV p h ≤ 4503599627370496 := by
  unfold expV
  have := Int.ediv_le_self (a := p * 4294967296) h (by omega)
  have := Int.ediv_nonneg (a := p * 4294967296) (b := h) (by omega) (by omega)
  omega
theorem exp_w {p h : Int} (p0 : 1 ≤ p) (p1 : p ≤ 1048576) (h0 : 1 ≤ h) (h1 : h ≤ 1073741824) : IntKind.u64.wrap (Int.tdiv (IntKind.u64.wrap ((IntKind.u64.wrap p) * 4294967296)) (IntKind.u64.wrap h)) = expV p h := by
  have := exp_bd p0 p1 h0
  rw [w64_in (x := p) (by omega) (by omega), w64_in (x := h) (by omega) (by omega), w64_in (x := p * 4294967296) (by omega) (by omega), tdiv_eq (by omega)]
  unfold expV at this ⊢
  rw [w64_in (by omega) (by omega)]
/-- What a period leaves. -/
def factV (p h : Int) : Int × Int := if p < 1 ∨ p > 1048576 ∨ h < 1 ∨ h > 1073741824 then (0, 100) else (((HH (expV p h).toNat : Nat) : Int), 0)
theorem factor (p h : Int) : decay_Factor.f p h = some (factV p h) := by
  unfold decay_Factor.f factV
  by_cases c1 : p < 1
  · rw [if_pos c1, if_pos (by omega)]
  · by_cases c2 : p > 1048576
    · rw [if_neg c1, if_pos c2, if_pos (by omega)]
    · by_cases c3 : h < 1
      · rw [if_neg c1, if_neg c2, if_pos c3, if_pos (by omega)]
      · by_cases c4 : h > 1073741824
        · rw [if_neg c1, if_neg c2, if_neg c3, if_pos c4, if_pos (by omega)]
        · rw [if_neg c1, if_neg c2, if_neg c3, if_neg c4, if_neg (c := _ ∨ _) (by omega), if_neg (by rw [w64_in (by omega) (by omega)]; omega), exp_w (by omega) (by omega) (by omega) (by omega)]
          have := exp_bd (p := p) (h := h) (by omega) (by omega) (by omega)
          rw [half_i ⟨by omega, by omega⟩]
          rfl
theorem capU {v : Int} (h : 0 ≤ v) : U (capV v).1 := by
  unfold capV
  split
  · exact ⟨h, by assumption⟩
  · exact ⟨by decide, by decide⟩
/-- A usage and so many node-ticks more. -/
def chargeV (u n : Int) : Int := if n < 0 then u else (capV (u + (capV (n * 4294967296)).1)).1
theorem charge {u n : Int} (hu : U u) (hn : n ≤ 9223372036854775807) : decay_Charge.f u n = some (chargeV u n) := by
  unfold decay_Charge.f chargeV
  by_cases c : n < 0
  · rw [if_pos c, if_pos c]
  · rw [if_neg c, if_neg c, fq_Of hn]
    unfold ofV
    rw [if_neg c]
    simp only [Option.bind_some]
    rw [fq_add hu (capU (by omega))]
    rfl
theorem fade {u f : Int} (hu : U u) (hf : U f) : decay_Fade.f u f = some (partV u f) := by
  unfold decay_Fade.f
  rw [fq_part hu hf]; rfl
theorem partU {u f : Int} (hu : U u) (hf : U f) : U (partV u f) := by
  have := part_le hu hf
  obtain ⟨a, b⟩ := hu
  exact ⟨by omega, by omega⟩
end Go.Proofs.YtgjjfnjnjnbfgaaDoor.Q
