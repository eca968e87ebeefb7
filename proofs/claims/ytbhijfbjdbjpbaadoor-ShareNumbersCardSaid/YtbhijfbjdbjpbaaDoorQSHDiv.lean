import Derived.Test.YtbhijfbjdbjpbaaDoorQSHBase
import Derived.Test.YtbhijfbjdbjpbaaDoorQSHEst
import Derived.Test.YtbhijfbjdbjpbaaDoorQSHSh
import Derived.Test.YtbhijfbjdbjpbaaDoorQSHDiv64
import Derived.Test.YtbhijfbjdbjpbaaDoorGSHx9
namespace Go.Proofs.YtbhijfbjdbjpbaaDoor.Q
open Go.RowKit Go.Proofs.YtbhijfbjdbjpbaaDoor.GSH Go.Proofs.YtbhijfbjdbjpbaaDoorW.PrintWords Go.Proofs.YtbhijfbjdbjpbaaDoorW.PrintLast Go.Proofs.YtbhijfbjdbjpbaaDoorW.PrintMore

theorem div_j2 {y y1 y0 u n1 n0 : Int} (s : Nat) (hU : U y) (hy : y = y1 * 4294967296 + y0) (h1 : 2147483648 ≤ y1) (h1' : y1 < 4294967296) (h0 : 0 ≤ y0) (h0' : y0 < 4294967296) (hu : 0 ≤ u) (hu' : u < y) (hn : 0 ≤ n1) (hn' : n1 < 4294967296) (hm : 0 ≤ n0) (hm' : n0 < 4294967296) :
    ∀ k, 7 ≤ k → bits_Div64.j2 k y (s : Int) y1 y0 u n1 n0 ((u * 4294967296 + n1) / y) = some ((u * 18446744073709551616 + n1 * 4294967296 + n0) / y, shr .u64 ((u * 18446744073709551616 + n1 * 4294967296 + n0) % y) (s : Int)) := by
  intro k hk
  obtain ⟨k, rfl⟩ : ∃ m, k = m + 1 := ⟨k - 1, by omega⟩
  simp only [bits_Div64.j2]
  have yp : 0 < y := by omega
  have e := Int.mul_ediv_add_emod (u * 4294967296 + n1) y
  rw [Int.mul_comm] at e
  have m0 := Int.emod_nonneg (u * 4294967296 + n1) (show y ≠ 0 by omega)
  have m1 := Int.emod_lt_of_pos (u * 4294967296 + n1) yp
  have q0 : 0 ≤ (u * 4294967296 + n1) / y := Int.ediv_nonneg (by omega) (by omega)
  have q1 : (u * 4294967296 + n1) / y < 4294967296 := by rw [Int.ediv_lt_iff_lt_mul yp]; omega
  have hU2 := hU.2
  have hun : IntKind.u64.wrap ((IntKind.u64.wrap ((IntKind.u64.wrap (u * 4294967296)) + n1)) - (IntKind.u64.wrap ((u * 4294967296 + n1) / y * y))) = (u * 4294967296 + n1) % y := by
    simp only [w64]
    generalize (u * 4294967296 + n1) / y * y = z at *
    omega
  rw [if_neg (by omega), hun]
  generalize hR : (u * 4294967296 + n1) % y = R1 at *
  generalize hQ : (u * 4294967296 + n1) / y = Q1 at *
  have es := Est.start (u := R1) (n := n0) hy h1 h1' h0 h0' m0 m1 hm hm'
  have d0 : 0 ≤ R1 / y1 := Int.ediv_nonneg m0 (by omega)
  have d1 := es.q1
  have dd : 0 ≤ R1 / y1 * y1 := Int.mul_nonneg d0 (by omega)
  have eq := Int.mul_ediv_add_emod R1 y1
  rw [Int.mul_comm] at eq
  have r0 := Int.emod_nonneg R1 (show y1 ≠ 0 by omega)
  have r1 := Int.emod_lt_of_pos R1 (show 0 < y1 by omega)
  rw [tdiv_eq m0, w64_in (x := R1 / y1) d0 (by omega), w64_in (x := R1 / y1 * y1) (by omega) (by omega), w64_in (x := R1 - R1 / y1 * y1) (by omega) (by omega)]
  rw [div_l1 s hU 2 k _ _ (by omega) es (by omega)]
  have z1 : (R1 * 4294967296 + n0) / y < 4294967296 := es.small
  have z0 : 0 ≤ (R1 * 4294967296 + n0) / y := Int.ediv_nonneg (by omega) (by omega)
  have hW : u * 18446744073709551616 + n1 * 4294967296 + n0 = R1 * 4294967296 + n0 + Q1 * 4294967296 * y := by
    rw [Int.mul_right_comm]
    omega
  rw [hW, Int.add_mul_ediv_right _ _ (by omega), Int.add_mul_emod_self_right]
  rw [w64_in (x := Q1 * 4294967296) (by omega) (by omega), w64_in (by omega) (by omega), Int.add_comm]
theorem div64 {h l y : Int} (k : Nat) (hk : 20 ≤ k) (h1 : U h) (h2 : U l) (h3 : U y) (hlt : h < y) : bits_Div64.f k h l y = some (V h l / y, V h l % y) := by
  unfold bits_Div64.f
  obtain ⟨h1a, h1b⟩ := h1; obtain ⟨h2a, h2b⟩ := h2; obtain ⟨h3a, h3b⟩ := h3
  rw [if_neg (by omega), if_neg (by omega)]
  by_cases hz : h = 0
  · subst hz
    rw [if_pos rfl, tdiv_eq h2a, tmod_eq h2a]
    have : V 0 l = l := by unfold V; omega
    rw [this]
    have d0 : 0 ≤ l / y := Int.ediv_nonneg h2a (by omega)
    have d1 : l / y ≤ l := Int.ediv_le_self y h2a
    rw [w64_in d0 (by omega)]
  · rw [if_neg hz]
    obtain ⟨s, hs, s1, s2, s3⟩ := lead64 (x := y) k (by omega) (by omega) (by omega)
    rw [hs]
    simp only [Option.bind_some]
    have ps := pow_pos_ s
    have hy2 : h * 2 ^ s ≤ (y - 1) * 2 ^ s := Int.mul_le_mul_of_nonneg_right (by omega) (by omega)
    rw [Int.sub_mul] at hy2
    have hh0 : 0 ≤ h * 2 ^ s := Int.mul_nonneg h1a (by omega)
    have dl := div_lt_pow (x := l) s (by omega) ⟨h2a, h2b⟩
    rw [w64_in (x := (s : Int)) (by omega) (by omega), w64_in (x := 64 - (s : Int)) (by omega) (by omega)]
    rw [show 64 - (s : Int) = ((64 - s : Nat) : Int) by omega, if_pos (by omega), if_pos (by omega), shl_at s (by omega), shl_at s (by omega), shl_at s (by omega), shr_at (64 - s) (by omega)]
    rw [or_add s (umod _) (emod_pow s (by omega)) dl.1 dl.2 (by have := pow_bd s (by omega); omega)]
    have eY : y * 2 ^ s % 18446744073709551616 = y * 2 ^ s := by omega
    have eH : h * 2 ^ s % 18446744073709551616 = h * 2 ^ s := by omega
    rw [eY, eH]
    have hW : V h l * 2 ^ s = (h * 2 ^ s + l / 2 ^ (64 - s)) * 18446744073709551616 + l * 2 ^ s % 18446744073709551616 := by
      have e1 : V h l * 2 ^ s = h * 2 ^ s * 18446744073709551616 + l * 2 ^ s := by unfold V; rw [Int.add_mul, Int.mul_right_comm]
      have e2 : l * 2 ^ s / 18446744073709551616 = l / 2 ^ (64 - s) := by
        rw [← pow_split s (by omega), Int.mul_comm l, Int.mul_ediv_mul_of_pos _ _ ps]
      rw [e1]
      omega
    generalize hl : l * 2 ^ s % 18446744073709551616 = L at *
    have uL : 0 ≤ L ∧ L < 18446744073709551616 := by rw [← hl]; omega
    generalize hu : h * 2 ^ s + l / 2 ^ (64 - s) = u at *
    generalize hY : y * 2 ^ s = Y at *
    have u0 : 0 ≤ u := by omega
    have u1 : u < Y := by omega
    rw [and32 ⟨by omega, s3⟩, and32 ⟨uL.1, uL.2⟩, if_neg (by omega)]
    have es := Est.start (y := Y) (y1 := Y / 4294967296) (y0 := Y % 4294967296) (u := u) (n := L / 4294967296) (by omega) (by omega) (by omega) (by omega) (by omega) u0 u1 (by omega) (by omega)
    have d0 : 0 ≤ u / (Y / 4294967296) := Int.ediv_nonneg u0 (by omega)
    have d1 := es.q1
    have dd : 0 ≤ u / (Y / 4294967296) * (Y / 4294967296) := Int.mul_nonneg d0 (by omega)
    have eq := Int.mul_ediv_add_emod u (Y / 4294967296)
    rw [Int.mul_comm] at eq
    have r0 := Int.emod_nonneg u (show Y / 4294967296 ≠ 0 by omega)
    have r1 := Int.emod_lt_of_pos u (show 0 < Y / 4294967296 by omega)
    rw [tdiv_eq u0, w64_in (x := u / (Y / 4294967296)) d0 (by omega), w64_in (x := u / (Y / 4294967296) * (Y / 4294967296)) (by omega) (by omega), w64_in (x := u - u / (Y / 4294967296) * (Y / 4294967296)) (by omega) (by omega)]
    rw [div_l0 (m := 7) (div_j2 s ⟨by omega, s3⟩ (by omega) (by omega) (by omega) (by omega) (by omega) u0 u1 (by omega) (by omega) (by omega) (by omega)) 2 k _ _ (by omega) es (by omega)]
    rw [show u * 18446744073709551616 + L / 4294967296 * 4294967296 + L % 4294967296 = V h l * 2 ^ s by rw [hW]; omega, ← hY, Int.mul_ediv_mul_of_pos_left _ _ ps]
    congr 2
    rw [shr_at s (by omega), Int.mul_comm (V h l), Int.mul_comm y, Int.mul_emod_mul_of_pos _ _ ps, Int.mul_ediv_cancel_left _ (by omega)]
theorem wdiv {ah al b : Int} (k : Nat) (hk : 20 ≤ k) (h1 : U ah) (h2 : U al) (hb : U b) (hb0 : b ≠ 0) :
    wide_Div.f k ah al b = some (V ah al / b / 18446744073709551616, V ah al / b % 18446744073709551616, V ah al % b, true) := by
  unfold wide_Div.f
  obtain ⟨h1a, h1b⟩ := h1; obtain ⟨h2a, h2b⟩ := h2; obtain ⟨hba, hbb⟩ := hb
  rw [if_neg hb0, tmod_eq h1a, tdiv_eq h1a]
  have m0 := Int.emod_nonneg ah hb0
  have m1 := Int.emod_lt_of_pos ah (show 0 < b by omega)
  have e := Int.mul_ediv_add_emod ah b
  rw [Int.mul_comm] at e
  have d0 : 0 ≤ ah / b := Int.ediv_nonneg h1a hba
  have d1 : ah / b ≤ ah := Int.ediv_le_self b h1a
  rw [div64 k hk ⟨m0, by omega⟩ ⟨h2a, h2b⟩ ⟨hba, hbb⟩ m1]
  simp only [Option.bind_some]
  rw [w64_in d0 (by omega)]
  have hV : V ah al = V (ah % b) al + ah / b * 18446744073709551616 * b := by
    unfold V
    rw [Int.mul_right_comm]
    omega
  have v0 : 0 ≤ V (ah % b) al / b := Int.ediv_nonneg (by unfold V; omega) hba
  have v1 : V (ah % b) al / b < 18446744073709551616 := by
    rw [Int.ediv_lt_iff_lt_mul (by omega)]
    unfold V
    omega
  have e1 : V ah al / b = V (ah % b) al / b + ah / b * 18446744073709551616 := by rw [hV, Int.add_mul_ediv_right _ _ hb0]
  have e2 : V ah al % b = V (ah % b) al % b := by rw [hV, Int.add_mul_emod_self_right]
  rw [e1, e2]
  congr 2
  · omega
  · congr 1
    omega
theorem wdiv0 {ah al : Int} (k : Nat) : wide_Div.f k ah al 0 = some (0, 0, 0, false) := by
  unfold wide_Div.f
  rw [if_pos rfl]
end Go.Proofs.YtbhijfbjdbjpbaaDoor.Q
