import Derived.Test.YtbhijfbjdbjpbaaDoorQSHBase
namespace Go.Proofs.YtbhijfbjdbjpbaaDoor.Q
open Go.RowKit Go.Proofs.YtbhijfbjdbjpbaaDoorW.PrintWords Go.Proofs.YtbhijfbjdbjpbaaDoorW.PrintLast Go.Proofs.YtbhijfbjdbjpbaaDoorW.PrintMore
/-- A config within its ranges. -/
structure Cfg (N Q L A F S P H : Int) : Prop where
  n0 : 1 ≤ N
  n1 : N ≤ 256
  q0 : 1 ≤ Q
  q1 : Q ≤ 128
  l0 : 1 ≤ L
  l1 : L ≤ 1048576
  a0 : 1 ≤ A
  a1 : A ≤ 1048576
  f0 : 0 ≤ F
  f1 : F ≤ 1048576
  s0 : 0 ≤ S
  s1 : S ≤ 1048576
  p0 : 1 ≤ P
  p1 : P ≤ 1048576
  h0 : 1 ≤ H
  h1 : H ≤ 1073741824
def within (x lo hi : Int) : Bool := decide (lo ≤ x ∧ x ≤ hi)
def inR (N Q L A F S P H : Int) : Bool := within N 1 256 && within Q 1 128 && within L 1 1048576 && within A 1 1048576 && within F 0 1048576 && within S 0 1048576 && within P 1 1048576 && within H 1 1073741824
theorem inR_cfg {N Q L A F S P H : Int} (h : inR N Q L A F S P H = true) : Cfg N Q L A F S P H := by
  unfold inR within at h
  simp only [Bool.and_eq_true, decide_eq_true_eq] at h
  obtain ⟨⟨⟨⟨⟨⟨⟨⟨a, b⟩, c, d⟩, e, f⟩, g, i⟩, j, k⟩, l, m⟩, n, o⟩, p, q⟩ := h
  exact ⟨a, b, c, d, e, f, g, i, j, k, l, m, n, o, p, q⟩
theorem prod_bd {x y a b : Int} (x0 : 0 ≤ x) (xa : x ≤ a) (y0 : 0 ≤ y) (yb : y ≤ b) : 0 ≤ x * y ∧ x * y ≤ a * b :=
  ⟨Int.mul_nonneg x0 y0, Int.le_trans (Int.mul_le_mul_of_nonneg_right xa y0) (Int.mul_le_mul_of_nonneg_left yb (by omega))⟩
/-- The exponent, and for how many periods a usage stands. -/
def eV (P H : Int) : Int := P * 4294967296 / H
def keepV (P H : Int) : Int := if (8589934592 + eV P H - 1) / eV P H < 2 then 2 else (8589934592 + eV P H - 1) / eV P H
theorem eV_bd {P H : Int} (p0 : 1 ≤ P) (p1 : P ≤ 1048576) (h0 : 1 ≤ H) (h1 : H ≤ 1073741824) : 4 ≤ eV P H ∧ eV P H ≤ 4503599627370496 := by
  unfold eV
  have := Int.ediv_le_self (a := P * 4294967296) H (by omega)
  refine ⟨?_, by omega⟩
  rw [Int.le_ediv_iff_mul_le (by omega)]
  omega
theorem up_bd {E : Int} (h : 4 ≤ E) : 0 ≤ (8589934592 + E - 1) / E ∧ (8589934592 + E - 1) / E ≤ 2147483649 := by
  refine ⟨Int.ediv_nonneg (by omega) (by omega), ?_⟩
  have h2 : (8589934592 + E - 1) / E < 2147483650 := by
    rw [Int.ediv_lt_iff_lt_mul (by omega)]
    omega
  omega
theorem keep_bd {P H : Int} (p0 : 1 ≤ P) (p1 : P ≤ 1048576) (h0 : 1 ≤ H) (h1 : H ≤ 1073741824) : 2 ≤ keepV P H ∧ keepV P H ≤ 2147483649 := by
  have := up_bd (eV_bd p0 p1 h0 h1).1
  unfold keepV
  split <;> omega
/-- Nodes by ticks; the greatest usage; the greatest priority that is not age. -/
def mostV (N P H : Int) : Int := N * P * keepV P H
def fsV (N F S : Int) : Int := F + S * N
theorem area_bd {N P : Int} (n0 : 1 ≤ N) (n1 : N ≤ 256) (p0 : 1 ≤ P) (p1 : P ≤ 1048576) : 1 ≤ N * P ∧ N * P ≤ 268435456 := by
  have h := prod_bd (x := N) (y := P) (a := 256) (b := 1048576) (by omega) n1 (by omega) p1
  have h2 : 1 * P ≤ N * P := Int.mul_le_mul_of_nonneg_right n0 (by omega)
  omega
theorem most_bd {N P H : Int} (n0 : 1 ≤ N) (n1 : N ≤ 256) (p0 : 1 ≤ P) (p1 : P ≤ 1048576) (h0 : 1 ≤ H) (h1 : H ≤ 1073741824) : keepV P H ≤ mostV N P H ∧ 2 * (N * P) ≤ mostV N P H ∧ mostV N P H ≤ 576460752571858944 := by
  have a := area_bd n0 n1 p0 p1
  have k := keep_bd p0 p1 h0 h1
  unfold mostV
  have h := prod_bd (x := N * P) (y := keepV P H) (a := 268435456) (b := 2147483649) (by omega) a.2 (by omega) k.2
  have h2 : 1 * keepV P H ≤ N * P * keepV P H := Int.mul_le_mul_of_nonneg_right a.1 (by omega)
  have h3 : N * P * 2 ≤ N * P * keepV P H := Int.mul_le_mul_of_nonneg_left k.1 (by omega)
  omega
theorem sn_bd {N S : Int} (n0 : 1 ≤ N) (n1 : N ≤ 256) (s0 : 0 ≤ S) (s1 : S ≤ 1048576) : 0 ≤ S * N ∧ S * N ≤ 268435456 := by
  have h := prod_bd (x := S) (y := N) (a := 1048576) (b := 256) s0 s1 (by omega) n1
  omega
def leadV (N A F S : Int) : Int := fsV N F S / A
def boundV (N Q L A F S : Int) : Int := leadV N A F S + 1 + Q * L
theorem lead_bd {N A F S : Int} (a0 : 1 ≤ A) (h0 : 0 ≤ fsV N F S) (h1 : fsV N F S ≤ 269484032) : 0 ≤ leadV N A F S ∧ leadV N A F S ≤ 269484032 := by
  unfold leadV
  refine ⟨Int.ediv_nonneg h0 (by omega), ?_⟩
  have := Int.ediv_le_self (a := fsV N F S) A h0
  omega
/-- The two numbers of Off, where Fair is not 0. -/
def gV (N P H : Int) : Int := keepV P H * (1 + (mostV N P H * 81 + 2147483648 - 1) / 2147483648)
def xV (N P H : Int) : Int := 258048 * gV N P H + 2 * (N * P)
def denV (N P : Int) : Int := N * P * 4294967296
def numV (N F P H : Int) : Int := F * xV N P H + denV N P
theorem g_bd {N P H : Int} (k0 : 2 ≤ keepV P H) (k1 : keepV P H ≤ mostV N P H) (m : mostV N P H ≤ 2147483648) : 0 ≤ gV N P H ∧ gV N P H ≤ 178241142784 := by
  unfold gV
  have h := prod_bd (x := keepV P H) (y := 1 + (mostV N P H * 81 + 2147483648 - 1) / 2147483648) (a := 2147483648) (b := 83) (by omega) (by omega) (by omega) (by omega)
  omega
theorem x_bd {N P H : Int} (a0 : 1 ≤ N * P) (a1 : N * P ≤ 268435456) (g0 : 0 ≤ gV N P H) (g1 : gV N P H ≤ 178241142784) : 0 ≤ xV N P H ∧ xV N P H ≤ 46000000000000000 := by
  unfold xV
  omega
theorem num_bd {N F P H : Int} (f0 : 0 ≤ F) (f1 : F ≤ 1048576) (a0 : 1 ≤ N * P) (a1 : N * P ≤ 268435456) (x0 : 0 ≤ xV N P H) (x1 : xV N P H ≤ 46000000000000000) : 0 ≤ F * xV N P H ∧ F * xV N P H ≤ 48234496000000000000000 ∧ 4294967296 ≤ numV N F P H ∧ numV N F P H ≤ 48235648921504606846976 := by
  have h := prod_bd (x := F) (y := xV N P H) (a := 1048576) (b := 46000000000000000) f0 f1 x0 x1
  unfold numV denV
  omega
end Go.Proofs.YtbhijfbjdbjpbaaDoor.Q
