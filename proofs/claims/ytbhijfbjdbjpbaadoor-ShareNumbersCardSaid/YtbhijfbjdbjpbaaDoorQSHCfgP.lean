import Derived.Test.YtbhijfbjdbjpbaaDoorQSHCfgB
import Derived.Test.YtbhijfbjdbjpbaaDoorQSHWShl
import Derived.Test.YtbhijfbjdbjpbaaDoorQSHAdd
import Derived.Test.YtbhijfbjdbjpbaaDoorGSHx2
import Derived.Test.YtbhijfbjdbjpbaaDoorGSHx3
import Derived.Test.YtbhijfbjdbjpbaaDoorGSHx5
import Derived.Test.YtbhijfbjdbjpbaaDoorGSHx6
import Derived.Test.YtbhijfbjdbjpbaaDoorGSHx7
import Derived.Test.YtbhijfbjdbjpbaaDoorGSHx8
namespace Go.Proofs.YtbhijfbjdbjpbaaDoor.Q
open Go.RowKit Go.Proofs.YtbhijfbjdbjpbaaDoor.GSH Go.Proofs.YtbhijfbjdbjpbaaDoorW.PrintWords Go.Proofs.YtbhijfbjdbjpbaaDoorW.PrintLast Go.Proofs.YtbhijfbjdbjpbaaDoorW.PrintMore
theorem p_in (x lo hi : Int) : config_inside.f x lo hi = some (within x lo hi) := by
  unfold config_inside.f within
  by_cases c : x ≥ lo
  · rw [if_pos c]; congr 1; by_cases d : x ≤ hi <;> simp [c, d]
  · rw [if_neg c]; congr 1; simp; omega
theorem p_ranges (k : Nat) (hk : 3 ≤ k) (N Q L A F S P H : Int) : config_asked_ranges.f k N Q L A F S P H = some (if inR N Q L A F S P H = true then 0 else 110) := by
  obtain ⟨k, rfl⟩ : ∃ m, k = m + 2 := ⟨k - 2, by omega⟩
  unfold config_asked_ranges.f inR
  simp only [config_asked_ranges.j0, config_asked_ranges.j1, p_in, Option.bind_some]
  generalize within N 1 256 = b0
  generalize within Q 1 128 = b1
  generalize within L 1 1048576 = b2
  generalize within A 1 1048576 = b3
  generalize within F 0 1048576 = b4
  generalize within S 0 1048576 = b5
  generalize within P 1 1048576 = b6
  generalize within H 1 1073741824 = b7
  cases b0 <;> cases b1 <;> cases b2 <;> cases b3 <;> cases b4 <;> cases b5 <;> cases b6 <;> cases b7 <;> rfl
section
variable {N Q L A F S P H : Int} (B : Bds N Q L A F S P H)
include B
theorem p_area : config_asked_area.f N Q L A F S P H = some (N * P) := by
  unfold config_asked_area.f
  rw [wrap64_in (by have := B.c0; omega) (by have := B.c1; omega)]
theorem p_keeps : config_asked_keeps.f N Q L A F S P H = some (keepV P H) := by
  obtain ⟨u0, u1⟩ := up_bd B.e0
  have e0 := B.e0; have e1 := B.e1; have p0 := B.p0; have p1 := B.p1; have h0 := B.h0
  unfold config_asked_keeps.f config_up.f mx
  rw [if_neg (by omega), wrap64_in (x := P * 4294967296) (by omega) (by omega), tdiv_eq (by omega), show P * 4294967296 / H = eV P H from rfl, wrap64_in (x := eV P H) (by omega) (by omega), if_neg (by omega)]
  rw [wrap64_in (x := 8589934592 + eV P H) (by omega) (by omega), wrap64_in (x := 8589934592 + eV P H - 1) (by omega) (by omega), tdiv_eq (by omega), wrap64_in (x := (8589934592 + eV P H - 1) / eV P H) (by omega) (by omega)]
  simp only [Option.bind_some]
  unfold keepV
  congr 1
  split <;> split <;> omega
theorem p_most : config_asked_most.f N Q L A F S P H = some (mostV N P H) := by
  unfold config_asked_most.f
  rw [p_area B, p_keeps B]
  simp only [Option.bind_some]
  have m0 := B.m0; have m1 := B.m1; have k0 := B.k0
  rw [show N * P * keepV P H = mostV N P H from rfl, wrap64_in (by omega) (by omega)]
theorem p_fs : config_asked_fairSize.f N Q L A F S P H = some (fsV N F S) := by
  have a := B.sn0; have b := B.sn1; have f0 := B.f0; have f1 := B.f1
  unfold config_asked_fairSize.f fsV
  rw [wrap64_in (x := S * N) (by omega) (by omega), wrap64_in (by omega) (by omega)]
theorem p_lead : config_asked_lead.f N Q L A F S P H = some (leadV N A F S) := by
  have a := B.ld0; have b := B.ld1; have c := B.fs0; have d := B.a0
  unfold config_asked_lead.f
  rw [p_fs B]
  simp only [Option.bind_some]
  rw [if_neg (by omega), tdiv_eq c, show fsV N F S / A = leadV N A F S from rfl, wrap64_in (by omega) (by omega)]
theorem p_bound : config_asked_bound.f N Q L A F S P H = some (boundV N Q L A F S) := by
  have a := B.ld0; have b := B.ld1; have c := B.ql0; have d := B.ql1
  unfold config_asked_bound.f boundV
  rw [p_lead B]
  simp only [Option.bind_some]
  rw [wrap64_in (x := leadV N A F S + 1) (by omega) (by omega), wrap64_in (x := Q * L) (by omega) (by omega), wrap64_in (by omega) (by omega)]
theorem p_usage : config_asked_usage.f N Q L A F S P H = some (if mostV N P H > 2147483648 then 111 else 0) := by
  unfold config_asked_usage.f
  rw [p_most B]
  simp only [Option.bind_some]
  split <;> rfl
theorem p_scale : config_asked_scale.f N Q L A F S P H = some (if A * 1099511627776 + fsV N F S ≥ 4611686018427387904 then 112 else 0) := by
  have a := B.fs0; have b := B.fs1; have c := B.a0; have d := B.a1
  unfold config_asked_scale.f
  rw [p_fs B]
  simp only [Option.bind_some]
  rw [wrap64_in (x := A * 1099511627776) (by omega) (by omega), wrap64_in (by omega) (by omega)]
  split <;> rfl
theorem p_bounds (hm : mostV N P H ≤ 2147483648) : config_asked_bounds.f N Q L A F S P H = some (bndV N F P H) := by
  obtain ⟨g0, g1, x0, x1, fx0, fx1, n0, n1⟩ := num_of B hm
  have c0 := B.c0; have c1 := B.c1; have f0 := B.f0; have f1 := B.f1; have m0 := B.m0; have k0 := B.k0
  unfold config_asked_bounds.f bndV wide_Of.f
  by_cases c : F = 0
  · rw [if_pos c, if_pos c]; rfl
  · rw [if_neg c, if_neg c, p_keeps B, p_most B, p_area B]
    simp only [Option.bind_some]
    unfold config_up.f
    have hd : 0 ≤ (mostV N P H * 81 + 2147483648 - 1) / 2147483648 := Int.ediv_nonneg (by omega) (by omega)
    rw [if_neg (by decide), wrap64_in (x := mostV N P H * 81) (by omega) (by omega), wrap64_in (x := mostV N P H * 81 + 2147483648) (by omega) (by omega), wrap64_in (x := mostV N P H * 81 + 2147483648 - 1) (by omega) (by omega), tdiv_eq (by omega), wrap64_in (x := (mostV N P H * 81 + 2147483648 - 1) / 2147483648) (by omega) (by omega)]
    simp only [Option.bind_some]
    rw [wrap64_in (x := 1 + (mostV N P H * 81 + 2147483648 - 1) / 2147483648) (by omega) (by omega), show keepV P H * (1 + (mostV N P H * 81 + 2147483648 - 1) / 2147483648) = gV N P H from rfl]
    rw [wrap64_in (x := gV N P H) (by omega) (by omega), wrap64_in (x := 258048 * gV N P H) (by omega) (by omega), wrap64_in (x := 2 * (N * P)) (by omega) (by omega), show 258048 * gV N P H + 2 * (N * P) = xV N P H from rfl, wrap64_in (x := xV N P H) (by omega) (by omega)]
    rw [w64_in (x := N * P) (by omega) (by omega), w64_in (x := F) (by omega) (by omega), w64_in (x := xV N P H) (by omega) (by omega)]
    have hs := wshl (h := 0) (l := N * P) ⟨by omega, by omega⟩ ⟨by omega, by omega⟩ 32 (by decide) (by decide)
    rw [show ((32 : Nat) : Int) = 32 from rfl] at hs
    have hv : shlV 0 (N * P) 32 = (denV N P / 18446744073709551616, denV N P % 18446744073709551616) := by
      unfold shlV denV
      refine Prod.ext ?_ ?_
      · simp; omega
      · simp
    rw [hs, hv]
    simp only [Option.bind_some]
    rw [wtimes ⟨by omega, by omega⟩ ⟨by omega, by omega⟩ ⟨by omega, by omega⟩]
    have ht := times_fits (q := F) (y := xV N P H) f0 x0 (by omega)
    rw [show F / 18446744073709551616 = 0 by omega, show F % 18446744073709551616 = F by omega] at ht
    rw [ht]
    simp only [Option.bind_some]
    unfold denV
    rw [wadd ⟨by omega, by omega⟩ (umod' _) ⟨by omega, by omega⟩ (umod' _)]
    simp only [Option.bind_some]
    unfold addV
    have e1 : V (F * xV N P H / 18446744073709551616) (F * xV N P H % 18446744073709551616) + V (N * P * 4294967296 / 18446744073709551616) (N * P * 4294967296 % 18446744073709551616) = numV N F P H := by
      unfold V numV denV
      omega
    rw [e1, if_pos (by omega)]
theorem p_off (hm : mostV N P H ≤ 2147483648) : config_asked_off.f N Q L A F S P H = some (offV N Q L A F S P H) := by
  have a := B.ab0; have b := B.ab1; have c := B.fs0; have d := B.fs1
  obtain ⟨u0, u1, u2, u3⟩ := bnd_U B hm
  unfold config_asked_off.f offV
  rw [p_bounds B hm, p_bound B, p_fs B]
  simp only [Option.bind_some]
  rw [wrap64_in (x := A * boundV N Q L A F S) (by omega) (by omega), wrap64_in (x := A * boundV N Q L A F S + fsV N F S) (by omega) (by omega), w64_in (x := A * boundV N Q L A F S + fsV N F S) (by omega) (by omega), wtimes u0 u1 ⟨by omega, by omega⟩, wtimes u2 u3 ⟨by omega, by omega⟩]
  simp only [Option.bind_some]
  rw [wcmp times_U times_U]
  simp only [Option.bind_some]
  split <;> rfl
end
theorem p_check (k : Nat) (hk : 3 ≤ k) (N Q L A F S P H : Int) : config_Check.f k N Q L A F S P H = some (checkV N Q L A F S P H) := by
  unfold config_Check.f checkV
  rw [p_ranges k hk]
  simp only [Option.bind_some]
  by_cases c : inR N Q L A F S P H = true
  · have B := bds (inR_cfg c)
    rw [if_pos c, if_pos c, if_pos rfl, p_usage B]
    simp only [Option.bind_some]
    by_cases d : mostV N P H > 2147483648
    · rw [if_pos d, if_pos d, if_neg (by decide)]
    · rw [if_neg d, if_neg d, if_pos rfl, p_scale B]
      simp only [Option.bind_some]
      by_cases e : A * 1099511627776 + fsV N F S ≥ 4611686018427387904
      · rw [if_pos e, if_pos e, if_neg (by decide)]
      · rw [if_neg e, if_neg e, if_pos rfl, p_off B (by omega)]
  · rw [if_neg c, if_neg c, if_neg (by decide)]
end Go.Proofs.YtbhijfbjdbjpbaaDoor.Q
