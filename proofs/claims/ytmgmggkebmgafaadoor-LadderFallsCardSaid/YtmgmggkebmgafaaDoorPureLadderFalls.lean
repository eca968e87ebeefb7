/-
  LadderFalls answers true at every two exponents: a greater one never gives more, whole ones are exact, and the squares of the bounds lie beyond the bounds of twice the exponent. No condition; the variable rungs is listed, and tied to the program's text.
-/
import Derived.Test.YtmgmggkebmgafaaDoorQLLawLad
import Derived.Test.YtmgmggkebmgafaaDoorQLRMul
import Derived.Test.YtmgmggkebmgafaaDoorQLRCmp
import Derived.Test.YtmgmggkebmgafaaDoorGLx4
namespace Go.Proofs.YtmgmggkebmgafaaDoor.Pure
open Go.RowKit Go.Proofs.YtmgmggkebmgafaaDoor.GL Go.Proofs.YtmgmggkebmgafaaDoor.Q Go.Proofs.YtmgmggkebmgafaaDoorW.PrintWords Go.Proofs.YtmgmggkebmgafaaDoorW.PrintMore
theorem hi_le (E : Nat) : hiN E ≤ 9223372036854775808 := by unfold hiN; split <;> omega
theorem lo_hi (E : Nat) : HH E ≤ hiN E := by have := HH_le E; unfold hiN; split <;> omega
theorem sq1 (E : Nat) : HH E * HH E ≤ 9223372036854775808 * hiN (2 * E) := by
  unfold hiN
  split
  · exact HH_sq E
  · exact Nat.mul_le_mul (HH_le E) (HH_le E)
theorem sq2 (E : Nat) : 9223372036854775808 * HH (2 * E) ≤ hiN E * hiN E := by
  unfold hiN
  split
  · exact HH_sqL E
  · exact Nat.mul_le_mul_left _ (HH_le _)
theorem vmul (x y : Nat) : V ((x : Int) * y / 18446744073709551616) ((x : Int) * y % 18446744073709551616) = ((x * y : Nat) : Int) := by
  have e : (x : Int) * y = ((x * y : Nat) : Int) := by simp
  rw [e]
  unfold V
  generalize x * y = z
  omega
theorem cmp_le {x y : Int} (h : x ≤ y) : cmpV x y ≤ 0 := by unfold cmpV; split; decide; split; decide; omega
theorem cmp_ge {x y : Int} (h : y ≤ x) : cmpV x y ≥ 0 := by unfold cmpV; split; omega; split; decide; decide
theorem falls_j1 (E : Nat) (hE : E < 18446744073709551616) : backfilllaw07_LadderFalls.j1 5 (E : Int) true false = some true := by
  simp only [backfilllaw07_LadderFalls.j1]
  rw [if_neg (by decide), tmod_eq (by omega)]
  have hn : (E : Int) / 4294967296 % 63 = ((E / 4294967296 % 63 : Nat) : Int) := by omega
  rw [hn]
  generalize hm : E / 4294967296 % 63 = n
  have hn63 : n < 63 := by omega
  rw [w64_in (by omega) (by omega), show ((n : Nat) : Int) * 4294967296 = ((n * 4294967296 : Nat) : Int) by omega, half _ (by omega), HH_whole hn63]
  simp only [Option.bind_some]
  rw [if_pos (by omega), if_pos (by rw [shr_at n (by omega)]; simp)]
  by_cases c : (E : Int) ≥ 9223372036854775808
  · rw [if_pos c]
  · rw [if_neg c, bounds_i ⟨by omega, by omega⟩, w64_in (by omega) (by omega), bounds_i ⟨by omega, by omega⟩, Int.toNat_natCast, show (2 * (E : Int)).toNat = 2 * E by omega]
    simp only [Option.bind_some, if_true]
    have b1 := HH_le E; have b2 := hi_le E; have b3 := HH_le (2 * E); have b4 := hi_le (2 * E); have b5 := lo_hi E
    rw [if_pos (by omega), rmul ⟨by omega, by omega⟩ ⟨by omega, by omega⟩, rmul ⟨by omega, by omega⟩ ⟨by omega, by omega⟩, rmul ⟨by omega, by omega⟩ ⟨by omega, by omega⟩, rmul ⟨by omega, by omega⟩ ⟨by omega, by omega⟩]
    simp only [Option.bind_some]
    rw [rcmp 4 (by omega) (umod _) (umod _), vmul]
    have e1 := vmul 9223372036854775808 (hiN (2 * E))
    rw [show ((9223372036854775808 : Nat) : Int) = 9223372036854775808 from rfl] at e1
    rw [e1]
    simp only [Option.bind_some]
    rw [if_pos (cmp_le (by exact_mod_cast sq1 E)), rcmp 4 (by omega) (umod _) (umod _), vmul]
    have e2 := vmul 9223372036854775808 (HH (2 * E))
    rw [show ((9223372036854775808 : Nat) : Int) = 9223372036854775808 from rfl] at e2
    rw [e2]
    simp only [Option.bind_some]
    rw [decide_eq_true (cmp_ge (by exact_mod_cast sq2 E))]
theorem falls_j0 (E F : Nat) (hE : E < 18446744073709551616) (hF : F < 18446744073709551616) (h : E ≤ F) : backfilllaw07_LadderFalls.j0 6 (E : Int) (F : Int) true = some true := by
  simp only [backfilllaw07_LadderFalls.j0]
  rw [half E hE, half F hF]
  simp only [Option.bind_some]
  have := HH_mono h
  rw [if_neg (by omega)]
  by_cases c : (E : Int) < 18446744073709551615
  · rw [if_pos c, w64_in (by omega) (by omega), show (E : Int) + 1 = ((E + 1 : Nat) : Int) by omega, half (E + 1) (by omega)]
    simp only [Option.bind_some]
    have := HH_mono (Nat.le_succ E)
    rw [decide_eq_false (by rw [Int.not_lt]; exact_mod_cast this)]
    exact falls_j1 E hE
  · rw [if_neg c]
    exact falls_j1 E hE
theorem LadderFalls : backfilllaw07_LadderFalls.Pure := by
  intro a b ha hb
  obtain ⟨a0, a1⟩ := wf_u ha
  obtain ⟨b0, b1⟩ := wf_u hb
  obtain ⟨E, rfl⟩ := Int.eq_ofNat_of_zero_le a0
  obtain ⟨F, rfl⟩ := Int.eq_ofNat_of_zero_le b0
  refine ⟨6, ?_⟩
  unfold backfilllaw07_LadderFalls.f
  rw [shown07]
  simp only [Option.bind_some]
  by_cases c : (E : Int) > (F : Int)
  · rw [if_pos c]
    exact falls_j0 F E (by omega) (by omega) (by omega)
  · rw [if_neg c]
    exact falls_j0 E F (by omega) (by omega) (by omega)
end Go.Proofs.YtmgmggkebmgafaaDoor.Pure
