/-
  ConfigLaws answers true at every config: of one that may be, a job that is Lead and one tick younger never ranks ahead; Most is at least twice Floor; Off is at most a thousandth of the greatest priority, and 0 just if Fair is; of any other all are 0. No condition.
-/
import Derived.Test.YtcolhngdhlamkaaQCLCfgT
import Derived.Test.YtcolhngdhlamkaaQCLCfgP
import Derived.Test.YtcolhngdhlamkaaQCLRTimes
import Derived.Test.YtcolhngdhlamkaaQCLRCmp
import Derived.Test.YtcolhngdhlamkaaGCLx11
namespace Go.Proofs.Ytcolhngdhlamkaa.Pure
open Go.RowKit Go.Proofs.Ytcolhngdhlamkaa.GCL Go.Proofs.Ytcolhngdhlamkaa.Q Go.Proofs.YtcolhngdhlamkaaW.PrintWords
section
variable {N Q L A F S P H : Int} (B : Bds N Q L A F S P H) (hm : mostV N P H ≤ 2147483648)
include B
theorem lead_laws : fsV N F S < A * (leadV N A F S + 1) ∧ A * leadV N A F S ≤ fsV N F S ∧ 0 ≤ A * leadV N A F S := by
  have a0 := B.a0; have l0 := B.ld0
  have h1 := Int.mul_ediv_add_emod (fsV N F S) A
  have h2 := Int.emod_lt_of_pos (fsV N F S) (show 0 < A by omega)
  have h3 := Int.emod_nonneg (fsV N F S) (show A ≠ 0 by omega)
  have h4 : 0 ≤ A * leadV N A F S := Int.mul_nonneg (by omega) l0
  unfold leadV at h4 ⊢
  rw [Int.mul_add, Int.mul_one]
  omega
include hm
theorem flags : (timesV (bndV N F P H).1 (bndV N F P H).2.1 1000).2.2 = true ∧ (timesV (bndV N F P H).2.2.1 (bndV N F P H).2.2.2 (A * boundV N Q L A F S + fsV N F S)).2.2 = true := by
  obtain ⟨_, _, _, _, _, _, n0, n1⟩ := num_of B hm
  have c0 := B.c0; have c1 := B.c1; have a := B.ab0; have b := B.ab1; have c := B.fs0; have d := B.fs1
  unfold bndV
  by_cases f : F = 0
  · rw [if_pos f]
    refine ⟨by decide +kernel, ?_⟩
    have := times_fits (q := 1) (y := A * boundV N Q L A F S + fsV N F S) (by decide) (by omega) (by omega)
    rw [show (1 : Int) / 18446744073709551616 = 0 by decide, show (1 : Int) % 18446744073709551616 = 1 by decide] at this
    rw [this]
  · rw [if_neg f]
    dsimp only
    refine ⟨by rw [times_fits (by omega) (by omega) (by omega)], ?_⟩
    have hd : 0 ≤ denV N P ∧ denV N P ≤ 1152921504606846976 := by unfold denV; omega
    have hp := prod_bd (x := denV N P) (y := A * boundV N Q L A F S + fsV N F S) (a := 1152921504606846976) (b := 423312247226368) hd.1 hd.2 (by omega) (by omega)
    rw [times_fits hd.1 (by omega) (by omega)]
theorem laws_j1 (k : Nat) (hk : 2 ≤ k) (ho : offV N Q L A F S P H = 0) (hc : checkV N Q L A F S P H = 0) : backfilllaw11_ConfigLaws.j1 (k + 2) true (fsV N F S) false N Q L A F S P H (bndV N F P H).1 (bndV N F P H).2.1 (bndV N F P H).2.2.1 (bndV N F P H).2.2.2 = some true := by
  obtain ⟨u0, u1, u2, u3⟩ := bnd_U B hm
  obtain ⟨fl1, fl2⟩ := flags B hm
  have a := B.ab0; have b := B.ab1; have c := B.fs0; have d := B.fs1
  simp only [backfilllaw11_ConfigLaws.j1]
  rw [if_neg (by decide)]
  unfold config_Bound.f
  rw [p_check (k + 1) (by omega), hc]
  simp only [Option.bind_some, if_true]
  rw [p_bound B]
  simp only [Option.bind_some]
  rw [wrap64_in (x := A * boundV N Q L A F S) (by omega) (by omega), wrap64_in (x := A * boundV N Q L A F S + fsV N F S) (by omega) (by omega), w64_in (x := A * boundV N Q L A F S + fsV N F S) (by omega) (by omega), rtimes u0 u1 ⟨by omega, by omega⟩, rtimes u2 u3 ⟨by omega, by omega⟩]
  simp only [Option.bind_some]
  rw [if_pos fl1, if_pos fl2, rcmp (k + 1) (by omega) times_U times_U]
  simp only [Option.bind_some]
  have hle : cmpV (V (timesV (bndV N F P H).1 (bndV N F P H).2.1 1000).1 (timesV (bndV N F P H).1 (bndV N F P H).2.1 1000).2.1) (V (timesV (bndV N F P H).2.2.1 (bndV N F P H).2.2.2 (A * boundV N Q L A F S + fsV N F S)).1 (timesV (bndV N F P H).2.2.1 (bndV N F P H).2.2.2 (A * boundV N Q L A F S + fsV N F S)).2.1) ≤ 0 := by
    unfold offV at ho
    split at ho
    · omega
    · omega
  rw [if_pos hle]
  obtain ⟨_, _, _, _, _, _, n0, n1⟩ := num_of B hm
  have c0 := B.c0; have c1 := B.c1
  unfold bndV
  by_cases f : F = 0
  · rw [if_pos f, f]
    decide
  · rw [if_neg f]
    dsimp only
    have e1 : (numV N F P H / 18446744073709551616 == 0 && numV N F P H % 18446744073709551616 == 0) = false := by
      rw [Bool.and_eq_false_iff, beq_eq_false_iff_ne, beq_eq_false_iff_ne]
      omega
    have e2 : (F == 0) = false := beq_eq_false_iff_ne.mpr f
    rw [e1, e2, if_pos (by decide)]
    congr 1
    rw [Bool.or_eq_true, Bool.not_eq_true', Bool.not_eq_true', beq_eq_false_iff_ne, beq_eq_false_iff_ne]
    unfold denV
    omega
theorem laws_j0 (ho : offV N Q L A F S P H = 0) (hc : checkV N Q L A F S P H = 0) : backfilllaw11_ConfigLaws.j0 10 true (fsV N F S) false N Q L A F S P H (bndV N F P H).1 (bndV N F P H).2.1 (bndV N F P H).2.2.1 (bndV N F P H).2.2.2 = some true := by
  have c0 := B.c0; have c1 := B.c1; have m2 := B.m2; have m0 := B.m0; have k0 := B.k0
  simp only [backfilllaw11_ConfigLaws.j0]
  rw [if_neg (by decide)]
  unfold config_Most.f config_Floor.f
  rw [p_check 9 (by omega), hc]
  simp only [Option.bind_some, if_true]
  rw [p_most B, p_area B]
  simp only [Option.bind_some]
  rw [w64_in (x := mostV N P H) (by omega) (by omega), w64_in (x := mostV N P H * 4294967296) (by omega) (by omega), w64_in (x := N * P) (by omega) (by omega), w64_in (x := N * P * 4294967296) (by omega) (by omega), tdiv_eq (by omega), w64_in (x := mostV N P H * 4294967296 / 2) (by omega) (by omega), wrap64_in (x := N * P) (by omega) (by omega), w64_in (x := N * P) (by omega) (by omega), w64_in (x := N * P * 4294967296) (by omega) (by omega)]
  rw [if_neg (by omega), if_pos rfl, decide_eq_false (by omega)]
  exact laws_j1 B hm 7 (by omega) ho hc
end
theorem laws (N Q L A F S P H : Int) : backfilllaw11_ConfigLaws.f 10 N Q L A F S P H = some true := by
  unfold backfilllaw11_ConfigLaws.f config_Off.f
  rw [shown11, p_check 10 (by omega)]
  simp only [Option.bind_some]
  by_cases c : checkV N Q L A F S P H = 0
  · obtain ⟨B, hm, ho⟩ := check_ok c
    have hj := laws_j0 B hm ho c
    obtain ⟨l1, l2, l3⟩ := lead_laws B
    have a := B.sn0; have b := B.sn1; have d := B.fs0; have e := B.fs1; have g := B.ld0; have h := B.ld1; have i := B.ql0; have j := B.ql1; have a0 := B.a0; have a1 := B.a1; have f0 := B.f0; have f1 := B.f1
    have hb := prod_bd (x := A) (y := leadV N A F S + 1) (a := 1048576) (b := 269484033) (by omega) a1 (by omega) (by omega)
    simp only [if_pos c]
    rw [p_bounds B hm]
    simp only [Option.bind_some]
    unfold config_Lead.f config_Bound.f
    rw [p_check 10 (by omega), c]
    simp only [Option.bind_some, if_true]
    rw [p_lead B, p_bound B]
    simp only [Option.bind_some]
    rw [wrap64_in (x := S * N) (by omega) (by omega), show F + S * N = fsV N F S from rfl, wrap64_in (x := fsV N F S) (by omega) (by omega), wrap64_in (x := leadV N A F S + 1) (by omega) (by omega), wrap64_in (x := A * (leadV N A F S + 1)) (by omega) (by omega), wrap64_in (x := A * leadV N A F S) (by omega) (by omega), wrap64_in (x := Q * L) (by omega) (by omega), wrap64_in (x := leadV N A F S + 1 + Q * L) (by omega) (by omega)]
    rw [if_neg (by omega), if_neg (by omega), show leadV N A F S + 1 + Q * L = boundV N Q L A F S from rfl, bne_self_eq_false]
    exact hj
  · simp only [if_neg c, Option.bind_some]
    unfold config_Lead.f config_Bound.f config_Most.f config_Floor.f
    rw [p_check 10 (by omega)]
    simp only [Option.bind_some, if_true, if_neg c]
    decide
theorem ConfigLaws (N Q L A F S P H : Int) (_ : (Lit.int .i64 N).wf = true) (_ : (Lit.int .i64 Q).wf = true) (_ : (Lit.int .i64 L).wf = true) (_ : (Lit.int .i64 A).wf = true) (_ : (Lit.int .i64 F).wf = true) (_ : (Lit.int .i64 S).wf = true) (_ : (Lit.int .i64 P).wf = true) (_ : (Lit.int .i64 H).wf = true) : ∃ k, backfilllaw11_ConfigLaws.f k N Q L A F S P H = some true := ⟨10, laws N Q L A F S P H⟩
end Go.Proofs.Ytcolhngdhlamkaa.Pure
