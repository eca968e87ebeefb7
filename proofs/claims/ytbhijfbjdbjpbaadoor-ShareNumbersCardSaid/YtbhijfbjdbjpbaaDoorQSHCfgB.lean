import Derived.Test.YtbhijfbjdbjpbaaDoorQSHCfgV
import Derived.Test.YtbhijfbjdbjpbaaDoorQSHTimes
import Derived.Test.YtbhijfbjdbjpbaaDoorQSHCmp
namespace Go.Proofs.YtbhijfbjdbjpbaaDoor.Q
open Go.RowKit Go.Proofs.YtbhijfbjdbjpbaaDoorW.PrintWords Go.Proofs.YtbhijfbjdbjpbaaDoorW.PrintLast Go.Proofs.YtbhijfbjdbjpbaaDoorW.PrintMore
/-- All that is needed of a config within its ranges. -/
structure Bds (N Q L A F S P H : Int) : Prop extends Cfg N Q L A F S P H where
  e0 : 4 ≤ eV P H
  e1 : eV P H ≤ 4503599627370496
  k0 : 2 ≤ keepV P H
  k1 : keepV P H ≤ 2147483649
  c0 : 1 ≤ N * P
  c1 : N * P ≤ 268435456
  m0 : keepV P H ≤ mostV N P H
  m2 : 2 * (N * P) ≤ mostV N P H
  m1 : mostV N P H ≤ 576460752571858944
  sn0 : 0 ≤ S * N
  sn1 : S * N ≤ 268435456
  fs0 : 0 ≤ fsV N F S
  fs1 : fsV N F S ≤ 269484032
  ld0 : 0 ≤ leadV N A F S
  ld1 : leadV N A F S ≤ 269484032
  ql0 : 0 ≤ Q * L
  ql1 : Q * L ≤ 134217728
  b0 : 1 ≤ boundV N Q L A F S
  b1 : boundV N Q L A F S ≤ 403701761
  ab0 : 0 ≤ A * boundV N Q L A F S
  ab1 : A * boundV N Q L A F S ≤ 423311977742336
theorem bds {N Q L A F S P H : Int} (C : Cfg N Q L A F S P H) : Bds N Q L A F S P H := by
  obtain ⟨n0, n1, q0, q1, l0, l1, a0, a1, f0, f1, s0, s1, p0, p1, h0, h1⟩ := C
  obtain ⟨e0, e1⟩ := eV_bd p0 p1 h0 h1
  obtain ⟨k0, k1⟩ := keep_bd p0 p1 h0 h1
  obtain ⟨c0, c1⟩ := area_bd n0 n1 p0 p1
  obtain ⟨m0, m2, m1⟩ := most_bd n0 n1 p0 p1 h0 h1
  obtain ⟨sn0, sn1⟩ := sn_bd n0 n1 s0 s1
  have fs0 : 0 ≤ fsV N F S := by unfold fsV; omega
  have fs1 : fsV N F S ≤ 269484032 := by unfold fsV; omega
  obtain ⟨ld0, ld1⟩ := lead_bd (A := A) a0 fs0 fs1
  have hq := prod_bd (x := Q) (y := L) (a := 128) (b := 1048576) (by omega) q1 (by omega) l1
  have b0 : 1 ≤ boundV N Q L A F S := by unfold boundV; omega
  have b1 : boundV N Q L A F S ≤ 403701761 := by unfold boundV; omega
  have hab := prod_bd (x := A) (y := boundV N Q L A F S) (a := 1048576) (b := 403701761) (by omega) a1 (by omega) b1
  exact ⟨⟨n0, n1, q0, q1, l0, l1, a0, a1, f0, f1, s0, s1, p0, p1, h0, h1⟩, e0, e1, k0, k1, c0, c1, m0, m2, m1, sn0, sn1, fs0, fs1, ld0, ld1, hq.1, by omega, b0, b1, hab.1, by omega⟩
/-- The two numbers of Off, as words. -/
def bndV (N F P H : Int) : Int × Int × Int × Int := if F = 0 then (0, 0, 0, 1) else (numV N F P H / 18446744073709551616, numV N F P H % 18446744073709551616, denV N P / 18446744073709551616, denV N P % 18446744073709551616)
def offV (N Q L A F S P H : Int) : Int := if cmpV (V (timesV (bndV N F P H).1 (bndV N F P H).2.1 1000).1 (timesV (bndV N F P H).1 (bndV N F P H).2.1 1000).2.1) (V (timesV (bndV N F P H).2.2.1 (bndV N F P H).2.2.2 (A * boundV N Q L A F S + fsV N F S)).1 (timesV (bndV N F P H).2.2.1 (bndV N F P H).2.2.2 (A * boundV N Q L A F S + fsV N F S)).2.1) > 0 then 113 else 0
def checkV (N Q L A F S P H : Int) : Int := if inR N Q L A F S P H = true then (if mostV N P H > 2147483648 then 111 else if A * 1099511627776 + fsV N F S ≥ 4611686018427387904 then 112 else offV N Q L A F S P H) else 110
theorem num_of {N Q L A F S P H : Int} (B : Bds N Q L A F S P H) (hm : mostV N P H ≤ 2147483648) : 0 ≤ gV N P H ∧ gV N P H ≤ 178241142784 ∧ 0 ≤ xV N P H ∧ xV N P H ≤ 46000000000000000 ∧ 0 ≤ F * xV N P H ∧ F * xV N P H ≤ 48234496000000000000000 ∧ 4294967296 ≤ numV N F P H ∧ numV N F P H ≤ 48235648921504606846976 := by
  obtain ⟨g0, g1⟩ := g_bd B.k0 B.m0 hm
  obtain ⟨x0, x1⟩ := x_bd B.c0 B.c1 g0 g1
  obtain ⟨f0, f1, n0, n1⟩ := num_bd (H := H) B.f0 B.f1 B.c0 B.c1 x0 x1
  exact ⟨g0, g1, x0, x1, f0, f1, n0, n1⟩
theorem bnd_U {N Q L A F S P H : Int} (B : Bds N Q L A F S P H) (hm : mostV N P H ≤ 2147483648) : U (bndV N F P H).1 ∧ U (bndV N F P H).2.1 ∧ U (bndV N F P H).2.2.1 ∧ U (bndV N F P H).2.2.2 := by
  obtain ⟨_, _, _, _, _, _, n0, n1⟩ := num_of B hm
  have c0 := B.c0
  have c1 := B.c1
  unfold bndV denV
  split
  · exact ⟨⟨by decide, by decide⟩, ⟨by decide, by decide⟩, ⟨by decide, by decide⟩, ⟨by decide, by decide⟩⟩
  · refine ⟨⟨?_, ?_⟩, ⟨?_, ?_⟩, ⟨?_, ?_⟩, ⟨?_, ?_⟩⟩ <;> dsimp only <;> omega
theorem times_U {h l y : Int} : U (timesV h l y).2.1 := by
  unfold timesV addV
  split
  · exact ⟨by decide, by decide⟩
  · split
    · exact umod' _
    · exact ⟨by decide, by decide⟩
end Go.Proofs.YtbhijfbjdbjpbaaDoor.Q
