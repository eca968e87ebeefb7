import Derived.Test.YtodibpddlibneaaQPTCfgP
import Derived.Test.YtodibpddlibneaaQPTCfgR
import Derived.Test.YtodibpddlibneaaQPTMul
import Derived.Test.YtodibpddlibneaaQPTWShr
import Derived.Test.YtodibpddlibneaaGPTx13
import Derived.Test.YtodibpddlibneaaGPTx3
import Derived.Test.YtodibpddlibneaaGPTx8
import Derived.Test.YtodibpddlibneaaGPTx9
namespace Go.Proofs.Ytodibpddlibneaa.Q
open Go.RowKit Go.Proofs.Ytodibpddlibneaa.GPT Go.Proofs.YtodibpddlibneaaW.PrintWords Go.Proofs.YtodibpddlibneaaW.PrintLast Go.Proofs.YtodibpddlibneaaW.PrintMore
set_option linter.unusedVariables false
set_option linter.unusedSimpArgs false
theorem check_all {N Q L A F S P H : Int} (c : checkV N Q L A F S P H = 0) : Bds N Q L A F S P H ∧ A * 1099511627776 + fsV N F S < 4611686018427387904 := by
  unfold checkV at c
  by_cases d : inR N Q L A F S P H = true
  · rw [if_pos d] at c
    by_cases e : mostV N P H > 2147483648
    · rw [if_pos e] at c
      omega
    · rw [if_neg e] at c
      by_cases f : A * 1099511627776 + fsV N F S ≥ 4611686018427387904
      · rw [if_pos f] at c
        omega
      · exact ⟨bds (inR_cfg d), by omega⟩
  · rw [if_neg d] at c
    omega
/-- What a priority comes to. -/
def prioV (N Q L A F S P H now sub nod fac : Int) : Int :=
  if checkV N Q L A F S P H = 0 ∧ 0 ≤ now ∧ now ≤ 1099511627776 ∧ 0 ≤ sub ∧ sub ≤ now ∧ 1 ≤ nod ∧ nod ≤ N ∧ fac ≤ 9223372036854775808 then A * (now - sub) + F * fac / 9223372036854775808 + S * nod else 0
theorem fair_bd {F fac : Int} (f0 : 0 ≤ F) (f1 : F ≤ 1048576) (g0 : 0 ≤ fac) (g1 : fac ≤ 9223372036854775808) : 0 ≤ F * fac ∧ F * fac ≤ 1048576 * 9223372036854775808 ∧ F * fac ≤ F * 9223372036854775808 :=
  ⟨Int.mul_nonneg f0 g0, Int.le_trans (Int.mul_le_mul_of_nonneg_right f1 g0) (Int.mul_le_mul_of_nonneg_left g1 (by omega)), Int.mul_le_mul_of_nonneg_left g1 f0⟩
theorem sum_bd {N Q L A F S P H now sub nod fac : Int} (B : Bds N Q L A F S P H) (hs : A * 1099511627776 + fsV N F S < 4611686018427387904) (s0 : 0 ≤ sub) (s1 : sub ≤ now) (s2 : now ≤ 1099511627776) (n0 : 1 ≤ nod) (n1 : nod ≤ N) (g0 : 0 ≤ fac) (g1 : fac ≤ 9223372036854775808) :
    0 ≤ A * (now - sub) ∧ A * (now - sub) ≤ A * 1099511627776 ∧ 0 ≤ S * nod ∧ S * nod ≤ S * N ∧ 0 ≤ F * fac / 9223372036854775808 ∧ F * fac / 9223372036854775808 ≤ F ∧ A * 1099511627776 + F + S * N < 4611686018427387904 := by
  have f0 := B.f0; have f1 := B.f1; have a0 := B.a0; have z0 := B.s0
  obtain ⟨p0, p1, p2⟩ := fair_bd f0 f1 g0 g1
  refine ⟨Int.mul_nonneg (by omega) (by omega), Int.mul_le_mul_of_nonneg_left (by omega) (by omega), Int.mul_nonneg z0 (by omega), Int.mul_le_mul_of_nonneg_left n1 z0, by omega, by omega, ?_⟩
  unfold fsV at hs
  omega
theorem j_prio (k : Nat) (N Q L A F S P H now a0 nod a2 sub a4 a5 a6 : Int) (l : List Int) (fac : Int) (b : Bool) :
    prio_Priority.j0 (k + 4) now fac b N Q L A F S P H a0 nod a2 sub a4 a5 a6 l = if b = true then some 0 else ((wide_Mul.f (IntKind.u64.wrap F) fac).bind fun bt207 => ((wide_Shr.f bt207.1 bt207.2 63).bind fun bt209 => (some (wrap64 ((wrap64 ((wrap64 (A * (wrap64 (now - sub)))) + (wrap64 (bt209.2)))) + (wrap64 (S * nod))))))) := by
  rw [prio_Priority.j0]
/-- The shift of the product, as a number. -/
theorem sh_prio {z : Int} (h0 : 0 ≤ z) (h1 : z ≤ 1048576 * 9223372036854775808) : (wide_Shr.f (z / 18446744073709551616) (z % 18446744073709551616) 63) = some (z / 18446744073709551616 / 9223372036854775808, z / 9223372036854775808) := by
  have hsh := wshr (h := z / 18446744073709551616) (l := z % 18446744073709551616) ⟨by omega, by omega⟩ ⟨by omega, by omega⟩ 63 (by omega) (by omega)
  rw [show ((63 : Nat) : Int) = 63 from rfl] at hsh
  rw [hsh, shrV, show (2 : Int) ^ (64 - 63) = 2 from rfl, show (2 : Int) ^ 63 = 9223372036854775808 from rfl]
  have e : (z / 18446744073709551616 * 2) % 18446744073709551616 + z % 18446744073709551616 / 9223372036854775808 = z / 9223372036854775808 := by omega
  rw [e]
theorem end_prio {u z v d : Int} (A S nod : Int) (e1 : A * d = u) (e2 : S * nod = v) (h0 : 0 ≤ d) (h1 : d < 9223372036854775808) (u0 : 0 ≤ u) (z0 : 0 ≤ z) (v0 : 0 ≤ v) (hs : u + z + v < 9223372036854775808) :
    wrap64 (wrap64 (wrap64 (A * wrap64 d) + wrap64 z) + wrap64 (S * nod)) = A * d + z + S * nod := by
  rw [wrap64_in (x := d) (by omega) (by omega), e1, e2, wrap64_in (x := u) (by omega) (by omega), wrap64_in (x := z) (by omega) (by omega), wrap64_in (x := u + z) (by omega) (by omega), wrap64_in (x := v) (by omega) (by omega), wrap64_in (by omega) (by omega)]
theorem bind_of {α β : Type} {x : Option α} {a : α} {f : α → Option β} {r : Option β} (h : x = some a) (e : f a = r) : x.bind f = r := by rw [h]; exact e
theorem last_prio (k : Nat) (N Q L A F S P H now a0 nod a2 sub a4 a5 a6 : Int) (l : List Int) (fac : Int) (f0 : 0 ≤ F) (f1 : F ≤ 1048576) (g0 : 0 ≤ fac) (g1 : fac ≤ 9223372036854775808)
    (h0 : 0 ≤ now - sub) (h1 : now - sub < 9223372036854775808) (u0 : 0 ≤ A * (now - sub)) (z0 : 0 ≤ F * fac / 9223372036854775808) (v0 : 0 ≤ S * nod) (hs : A * (now - sub) + F * fac / 9223372036854775808 + S * nod < 9223372036854775808) :
    prio_Priority.j0 (k + 4) now fac false N Q L A F S P H a0 nod a2 sub a4 a5 a6 l = some (A * (now - sub) + F * fac / 9223372036854775808 + S * nod) := by
  obtain ⟨p0, p1, p2⟩ := fair_bd f0 f1 g0 g1
  rw [j_prio, if_neg (by decide), w64_in f0 (by omega)]
  refine bind_of (wmul ⟨f0, by omega⟩ ⟨g0, by omega⟩) (bind_of (sh_prio p0 p1) ?_)
  exact congrArg some (end_prio A S nod rfl rfl h0 h1 u0 z0 v0 hs)
theorem p_prio (k : Nat) (N Q L A F S P H now a0 nod a2 sub a4 a5 a6 : Int) (l : List Int) (fac : Int) (g0 : 0 ≤ fac) (g1 : fac < 18446744073709551616) :
    prio_Priority.f (k + 4) N Q L A F S P H now a0 nod a2 sub a4 a5 a6 l fac = some (prioV N Q L A F S P H now sub nod fac) := by
  unfold prio_Priority.f
  rw [p_check _ (by omega)]
  simp only [Option.bind_some]
  have jt : ∀ b, b = true → prio_Priority.j0 (k + 4) now fac b N Q L A F S P H a0 nod a2 sub a4 a5 a6 l = some 0 := fun b hb => by rw [j_prio, if_pos hb]
  simp only [jt true rfl]
  unfold prioV
  by_cases c0 : checkV N Q L A F S P H = 0
  · simp only [if_pos c0]
    by_cases c1 : now < 0
    · rw [if_pos c1, if_neg (by omega)]
    rw [if_neg c1]
    by_cases c2 : now > 1099511627776
    · rw [if_pos c2, if_neg (by omega)]
    rw [if_neg c2]
    by_cases c3 : sub < 0
    · rw [if_pos c3, if_neg (by omega)]
    rw [if_neg c3]
    by_cases c4 : sub > now
    · rw [if_pos c4, if_neg (by omega)]
    rw [if_neg c4]
    by_cases c5 : nod < 1
    · rw [if_pos c5, if_neg (by omega)]
    rw [if_neg c5]
    by_cases c6 : nod > N
    · rw [if_pos c6, if_neg (by omega)]
    rw [if_neg c6]
    by_cases c7 : fac > 9223372036854775808
    · rw [jt _ (by simpa using c7), if_neg (by omega)]
    rw [show decide (fac > 9223372036854775808) = false by simpa using c7, if_pos (by omega)]
    obtain ⟨B, hs⟩ := check_all c0
    obtain ⟨x0, x1, y0, y1, z0, z1, z2⟩ := sum_bd B hs (by omega : 0 ≤ sub) (by omega : sub ≤ now) (by omega) (by omega : 1 ≤ nod) (by omega) g0 (by omega : fac ≤ 9223372036854775808)
    have f0 := B.f0; have f1 := B.f1
    exact last_prio k N Q L A F S P H now a0 nod a2 sub a4 a5 a6 l fac f0 f1 g0 (by omega) (by omega) (by omega) x0 z0 y0 (by omega)
  · simp only [if_neg c0]
    rw [if_neg (by omega)]
/-- AGE WINS: whoever came more than Lead ahead ranks ahead. -/
theorem age_wins {N Q L A F S P H now el la n1 n2 f1 f2 : Int} (c : checkV N Q L A F S P H = 0) (h0 : 0 ≤ now) (h1 : now ≤ 1099511627776) (e0 : 0 ≤ el) (l1 : la ≤ now) (le : el < la) (a0 : 1 ≤ n1) (a1 : n1 ≤ N) (b0 : 1 ≤ n2) (b1 : n2 ≤ N) (g0 : 0 ≤ f1) (g : f1 ≤ f2) (g1 : f2 ≤ 9223372036854775808) :
    (la - el > leadV N A F S → prioV N Q L A F S P H now la n2 f2 < prioV N Q L A F S P H now el n1 f1) ∧
    prioV N Q L A F S P H now el n1 f1 ≤ prioV N Q L A F S P H now el n1 f2 ∧
    (now ≠ 1099511627776 → prioV N Q L A F S P H now el n1 f1 < prioV N Q L A F S P H (now + 1) el n1 f1) := by
  obtain ⟨B, hs⟩ := check_all c
  have x1 := sum_bd B hs e0 (by omega : el ≤ now) h1 a0 a1 g0 (by omega : f1 ≤ 9223372036854775808)
  have x2 := sum_bd B hs (by omega : 0 ≤ la) l1 h1 b0 b1 (by omega : 0 ≤ f2) g1
  obtain ⟨x1a, x1b, x1c, x1d, x1e, x1f, x1g⟩ := x1
  obtain ⟨x2a, x2b, x2c, x2d, x2e, x2f, x2g⟩ := x2
  have hA := B.a0
  have e1 : prioV N Q L A F S P H now la n2 f2 = A * (now - la) + F * f2 / 9223372036854775808 + S * n2 := by unfold prioV; rw [if_pos (by omega)]
  have e2 : prioV N Q L A F S P H now el n1 f1 = A * (now - el) + F * f1 / 9223372036854775808 + S * n1 := by unfold prioV; rw [if_pos (by omega)]
  have e3 : prioV N Q L A F S P H now el n1 f2 = A * (now - el) + F * f2 / 9223372036854775808 + S * n1 := by unfold prioV; rw [if_pos (by omega)]
  refine ⟨fun hl => ?_, ?_, fun hn => ?_⟩
  · rw [e1, e2]
    have k1 : A * (now - el) = A * (now - la) + A * (la - el) := by rw [← Int.mul_add]; congr 1; omega
    have k2 : fsV N F S < A * (la - el) := by
      have q : fsV N F S < A * (fsV N F S / A + 1) := by
        have h := Int.lt_mul_ediv_self_add (x := fsV N F S) (k := A) (by omega)
        rw [Int.mul_add]; omega
      have r : A * (fsV N F S / A + 1) ≤ A * (la - el) := Int.mul_le_mul_of_nonneg_left (by unfold leadV at hl; omega) (by omega)
      omega
    unfold fsV at k2
    omega
  · rw [e2, e3]
    have q : F * f1 ≤ F * f2 := Int.mul_le_mul_of_nonneg_left g B.f0
    have : F * f1 / 9223372036854775808 ≤ F * f2 / 9223372036854775808 := Int.ediv_le_ediv (by omega) q
    omega
  · have e4 : prioV N Q L A F S P H (now + 1) el n1 f1 = A * (now + 1 - el) + F * f1 / 9223372036854775808 + S * n1 := by unfold prioV; rw [if_pos (by omega)]
    rw [e2, e4]
    have k : A * (now + 1 - el) = A * (now - el) + A := by rw [show now + 1 - el = (now - el) + 1 by omega, Int.mul_add]; omega
    omega
end Go.Proofs.Ytodibpddlibneaa.Q
