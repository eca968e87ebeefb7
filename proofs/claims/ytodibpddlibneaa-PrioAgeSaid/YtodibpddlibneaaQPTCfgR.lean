import Derived.Test.YtodibpddlibneaaQPTCfgB
import Derived.Test.YtodibpddlibneaaQPTRMul
import Derived.Test.YtodibpddlibneaaQPTRAdd
import Derived.Test.YtodibpddlibneaaQPTRTimes
import Derived.Test.YtodibpddlibneaaQPTRCmp
import Derived.Test.YtodibpddlibneaaGPTx10
import Derived.Test.YtodibpddlibneaaGPTx11
import Derived.Test.YtodibpddlibneaaGPTx12
import Derived.Test.YtodibpddlibneaaGPTx13
namespace Go.Proofs.Ytodibpddlibneaa.Q
open Go.RowKit Go.Proofs.Ytodibpddlibneaa.GPT Go.Proofs.YtodibpddlibneaaW.PrintWords Go.Proofs.YtodibpddlibneaaW.PrintLast Go.Proofs.YtodibpddlibneaaW.PrintMore
theorem r_in (x lo hi : Int) : backfillref11_within.f x lo hi = some (within x lo hi) := by
  unfold backfillref11_within.f within
  by_cases c : x ≥ lo
  · rw [if_pos c]; congr 1; by_cases d : x ≤ hi <;> simp [c, d]
  · rw [if_neg c]; congr 1; simp; omega
theorem r_ranges (k : Nat) (hk : 3 ≤ k) (N Q L A F S P H : Int) : backfillref11_ranges.f k N Q L A F S P H = some (inR N Q L A F S P H) := by
  obtain ⟨k, rfl⟩ : ∃ m, k = m + 2 := ⟨k - 2, by omega⟩
  unfold backfillref11_ranges.f inR
  simp only [backfillref11_ranges.j0, r_in, Option.bind_some]
  generalize within N 1 256 = b0
  generalize within Q 1 128 = b1
  generalize within L 1 1048576 = b2
  generalize within A 1 1048576 = b3
  generalize within F 0 1048576 = b4
  generalize within S 0 1048576 = b5
  generalize within P 1 1048576 = b6
  generalize within H 1 1073741824 = b7
  cases b0 <;> cases b1 <;> cases b2 <;> cases b3 <;> cases b4 <;> cases b5 <;> cases b6 <;> cases b7 <;> rfl
section
variable {N Q L A F S P H : Int} (B : Bds N Q L A F S P H)
include B
theorem r_C : backfillref11_C.f N Q L A F S P H = some (N * P) := by
  unfold backfillref11_C.f
  rw [wrap64_in (by have := B.c0; omega) (by have := B.c1; omega)]
theorem r_K : backfillref11_K.f N Q L A F S P H = some (keepV P H) := by
  obtain ⟨u0, u1⟩ := up_bd B.e0
  have e0 := B.e0; have e1 := B.e1; have p0 := B.p0; have p1 := B.p1; have h0 := B.h0; have h1 := B.h1
  unfold backfillref11_K.f backfillref10_Exponent.f
  rw [w64_in (x := H) (by omega) (by omega), if_neg (by omega), w64_in (x := P) (by omega) (by omega), w64_in (x := P * 4294967296) (by omega) (by omega), tdiv_eq (by omega), show P * 4294967296 / H = eV P H from rfl, w64_in (x := eV P H) (by omega) (by omega)]
  simp only [Option.bind_some]
  unfold backfillref11_up.f
  rw [wrap64_in (x := eV P H) (by omega) (by omega), if_neg (by omega), wrap64_in (x := 8589934592 + eV P H) (by omega) (by omega), wrap64_in (x := 8589934592 + eV P H - 1) (by omega) (by omega), tdiv_eq (by omega), wrap64_in (x := (8589934592 + eV P H - 1) / eV P H) (by omega) (by omega)]
  simp only [Option.bind_some]
  unfold keepV
  split <;> rfl
theorem r_M : backfillref11_M.f N Q L A F S P H = some (mostV N P H) := by
  unfold backfillref11_M.f
  rw [r_C B, r_K B]
  simp only [Option.bind_some]
  have m0 := B.m0; have m1 := B.m1; have k0 := B.k0
  rw [show N * P * keepV P H = mostV N P H from rfl, wrap64_in (by omega) (by omega)]
theorem r_lead : backfillref11_lead.f N Q L A F S P H = some (leadV N A F S) := by
  have a := B.ld0; have b := B.ld1; have c := B.fs0; have d := B.a0; have e := B.sn0; have f := B.sn1; have g := B.fs1
  unfold backfillref11_lead.f
  rw [if_neg (by omega), wrap64_in (x := S * N) (by omega) (by omega), show F + S * N = fsV N F S from rfl, wrap64_in (x := fsV N F S) (by omega) (by omega), tdiv_eq c, show fsV N F S / A = leadV N A F S from rfl, wrap64_in (by omega) (by omega)]
theorem r_bound : backfillref11_bound.f N Q L A F S P H = some (boundV N Q L A F S) := by
  have a := B.ld0; have b := B.ld1; have c := B.ql0; have d := B.ql1
  unfold backfillref11_bound.f boundV
  rw [r_lead B]
  simp only [Option.bind_some]
  rw [wrap64_in (x := leadV N A F S + 1) (by omega) (by omega), wrap64_in (x := Q * L) (by omega) (by omega), wrap64_in (by omega) (by omega)]
theorem r_G (hm : mostV N P H ≤ 2147483648) : backfillref11_G.f N Q L A F S P H = some (gV N P H) := by
  obtain ⟨g0, g1, x0, x1, fx0, fx1, n0, n1⟩ := num_of B hm
  have m0 := B.m0; have k0 := B.k0
  unfold backfillref11_G.f
  rw [r_K B, r_M B]
  simp only [Option.bind_some]
  unfold backfillref11_up.f
  have hd : 0 ≤ (mostV N P H * 81 + 2147483648 - 1) / 2147483648 := Int.ediv_nonneg (by omega) (by omega)
  rw [if_neg (by decide), wrap64_in (x := mostV N P H * 81) (by omega) (by omega), wrap64_in (x := mostV N P H * 81 + 2147483648) (by omega) (by omega), wrap64_in (x := mostV N P H * 81 + 2147483648 - 1) (by omega) (by omega), tdiv_eq (by omega), wrap64_in (x := (mostV N P H * 81 + 2147483648 - 1) / 2147483648) (by omega) (by omega)]
  simp only [Option.bind_some]
  rw [wrap64_in (x := 1 + (mostV N P H * 81 + 2147483648 - 1) / 2147483648) (by omega) (by omega), show keepV P H * (1 + (mostV N P H * 81 + 2147483648 - 1) / 2147483648) = gV N P H from rfl, wrap64_in (by omega) (by omega)]
theorem r_bounds (hm : mostV N P H ≤ 2147483648) : backfillref11_off.f N Q L A F S P H = some (bndV N F P H) := by
  obtain ⟨g0, g1, x0, x1, fx0, fx1, n0, n1⟩ := num_of B hm
  have c0 := B.c0; have c1 := B.c1; have f0 := B.f0; have f1 := B.f1; have m0 := B.m0; have k0 := B.k0
  unfold backfillref11_off.f bndV backfillref01_Of.f
  by_cases c : F = 0
  · rw [if_pos c, if_pos c]; rfl
  · rw [if_neg c, if_neg c, r_C B, r_G B hm]
    simp only [Option.bind_some]
    rw [wrap64_in (x := 2 * (N * P)) (by omega) (by omega), w64_in (x := N * P) (by omega) (by omega), w64_in (x := gV N P H) (by omega) (by omega), w64_in (x := 2 * (N * P)) (by omega) (by omega), w64_in (x := F) (by omega) (by omega)]
    rw [rmul (a := N * P) ⟨by omega, by omega⟩ ⟨by omega, by omega⟩, rmul (a := 258048) ⟨by omega, by omega⟩ ⟨by omega, by omega⟩]
    simp only [Option.bind_some]
    rw [radd ⟨by omega, by omega⟩ (umod' _) ⟨by omega, by omega⟩ ⟨by omega, by omega⟩]
    simp only [Option.bind_some]
    have e0 : addV (V (258048 * gV N P H / 18446744073709551616) (258048 * gV N P H % 18446744073709551616)) (V 0 (2 * (N * P))) = (xV N P H / 18446744073709551616, xV N P H % 18446744073709551616, true) := by
      unfold addV
      have : V (258048 * gV N P H / 18446744073709551616) (258048 * gV N P H % 18446744073709551616) + V 0 (2 * (N * P)) = xV N P H := by unfold V xV; omega
      rw [this, if_pos (by omega)]
    rw [e0]
    dsimp only
    rw [rtimes ⟨by omega, by omega⟩ (umod' _) ⟨by omega, by omega⟩]
    have ht := times_fits (q := xV N P H) (y := F) x0 f0 (by rw [Int.mul_comm]; omega)
    rw [ht]
    simp only [Option.bind_some]
    rw [Int.mul_comm (xV N P H) F]
    rw [radd ⟨by omega, by omega⟩ (umod' _) ⟨by omega, by omega⟩ (umod' _)]
    simp only [Option.bind_some]
    unfold addV
    have e1 : V (F * xV N P H / 18446744073709551616) (F * xV N P H % 18446744073709551616) + V (N * P * 4294967296 / 18446744073709551616) (N * P * 4294967296 % 18446744073709551616) = numV N F P H := by
      unfold V numV denV
      omega
    rw [e1, if_pos (by omega)]
    rfl
end
theorem r_check (k : Nat) (hk : 3 ≤ k) (N Q L A F S P H : Int) : backfillref11_Check.f k N Q L A F S P H = some (checkV N Q L A F S P H) := by
  unfold backfillref11_Check.f checkV
  rw [r_ranges k hk]
  simp only [Option.bind_some]
  by_cases c : inR N Q L A F S P H = true
  · have B := bds (inR_cfg c)
    have fs0 := B.fs0; have fs1 := B.fs1; have a0 := B.a0; have a1 := B.a1; have s0 := B.sn0; have s1 := B.sn1; have f0 := B.f0; have f1 := B.f1; have ab0 := B.ab0; have ab1 := B.ab1
    rw [if_pos c, if_pos c, r_M B]
    simp only [Option.bind_some]
    by_cases d : mostV N P H > 2147483648
    · rw [if_pos d, if_pos d]
    · rw [if_neg d, if_neg d]
      have e1 : A * 1099511627776 + F + S * N = A * 1099511627776 + fsV N F S := by unfold fsV; omega
      rw [wrap64_in (x := A * 1099511627776) (by omega) (by omega), wrap64_in (x := A * 1099511627776 + F) (by omega) (by omega), wrap64_in (x := S * N) (by omega) (by omega), wrap64_in (x := A * 1099511627776 + F + S * N) (by omega) (by omega), e1]
      by_cases e : A * 1099511627776 + fsV N F S ≥ 4611686018427387904
      · rw [if_pos e, if_pos e]
      · rw [if_neg e, if_neg e, r_bounds B (by omega), r_bound B]
        simp only [Option.bind_some]
        obtain ⟨u0, u1, u2, u3⟩ := bnd_U B (show mostV N P H ≤ 2147483648 by omega)
        have e2 : A * boundV N Q L A F S + F + S * N = A * boundV N Q L A F S + fsV N F S := by unfold fsV; omega
        rw [wrap64_in (x := A * boundV N Q L A F S) (by omega) (by omega), wrap64_in (x := A * boundV N Q L A F S + F) (by omega) (by omega), wrap64_in (x := A * boundV N Q L A F S + F + S * N) (by omega) (by omega), e2, w64_in (x := A * boundV N Q L A F S + fsV N F S) (by omega) (by omega)]
        rw [rtimes u0 u1 ⟨by omega, by omega⟩, rtimes u2 u3 ⟨by omega, by omega⟩]
        simp only [Option.bind_some]
        rw [rcmp k (by omega) times_U times_U]
        simp only [Option.bind_some]
        unfold offV
        split <;> rfl
  · rw [if_neg c, if_neg c]
end Go.Proofs.Ytodibpddlibneaa.Q
