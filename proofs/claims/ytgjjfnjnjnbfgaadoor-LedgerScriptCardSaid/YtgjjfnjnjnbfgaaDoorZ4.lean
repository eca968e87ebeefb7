/- The texts of this claim, put together by program, what it does not name left out: part 4. Conditions: each theorem's own. -/
import Derived.Test.YtgjjfnjnjnbfgaaDoorZ3
namespace Go.Proofs.YtgjjfnjnjnbfgaaDoor.GLG
open Go.RowKit Go.Proofs.YtgjjfnjnjnbfgaaDoorW.PrintWords Go.Proofs.YtgjjfnjnjnbfgaaDoorW.PrintLast Go.Proofs.YtgjjfnjnjnbfgaaDoorW.PrintMore
attribute [local go_sem] max2_int min2_int max_two min_two max_three min_three max_four min_four   -- for this text's walks alone
set_option linter.unusedVariables false
set_option linter.unusedSimpArgs false
def backfillref11_Check.f (k : Nat) (a0_0 : Int) (a0_1 : Int) (a0_2 : Int) (a0_3 : Int) (a0_4 : Int) (a0_5 : Int) (a0_6 : Int) (a0_7 : Int) : Option (Int):=(backfillref11_ranges.f k a0_0 a0_1 a0_2 a0_3 a0_4 a0_5 a0_6 a0_7).bind fun t333 => (if t333 = true then ((backfillref11_M.f a0_0 a0_1 a0_2 a0_3 a0_4 a0_5 a0_6 a0_7).bind fun t334 => (if t334 > 2147483648 then (some 111) else (if (wrap64 ((wrap64 ((wrap64 (a0_3 * 1099511627776)) + a0_4)) + (wrap64 (a0_5 * a0_0)))) ≥ 4611686018427387904 then (some 112) else ((backfillref11_off.f a0_0 a0_1 a0_2 a0_3 a0_4 a0_5 a0_6 a0_7).bind fun bt335 => ((backfillref01_Times.f bt335.1 bt335.2.1 1000).bind fun bt341 => ((backfillref11_bound.f a0_0 a0_1 a0_2 a0_3 a0_4 a0_5 a0_6 a0_7).bind fun t345 => ((backfillref01_Times.f bt335.2.2.1 bt335.2.2.2 (IntKind.u64.wrap (wrap64 ((wrap64 ((wrap64 (a0_3 * t345)) + a0_4)) + (wrap64 (a0_5 * a0_0)))))).bind fun bt346 => ((backfillref01_Cmp.f k bt341.1 bt341.2.1 bt346.1 bt346.2.1).bind fun t350 => (if t350 > 0 then (some 113) else (some 0)))))))))) else (some 110))
theorem backfillref11_Check.mono : ∀ a0 a1 a2 a3 a4 a5 a6 a7 k,LeO (backfillref11_Check.f k a0 a1 a2 a3 a4 a5 a6 a7) (backfillref11_Check.f (k + 1) a0 a1 a2 a3 a4 a5 a6 a7):=by
 intro a0 a1 a2 a3 a4 a5 a6 a7 k
 unfold backfillref11_Check.f
 repeat' first
   | (with_reducible exact backfillref01_Cmp.mono _ _ _ _ _)
   | (with_reducible exact backfillref11_ranges.mono _ _ _ _ _ _ _ _ _)
   | (with_reducible exact LeO.refl _)
   | (with_reducible exact LeO.none _)
   | (with_reducible refine LeO.ite ?_ ?_)
   | (with_reducible refine LeO.bind ?_ (fun _ => ?_))
   | exact backfillref01_Cmp.mono _ _ _ _ _
   | exact backfillref11_ranges.mono _ _ _ _ _ _ _ _ _
   | exact LeO.none _
   | refine LeO.ite ?_ ?_
   | refine LeO.bind ?_ (fun _ => ?_)
def backfillref11_Check.T9 : Bool × List (List Nat × List Nat):=(true,[([],[]),([],[]),([1],[1]),([],[]),([3],[3]),([2,4],[2,4]),([],[]),([6],[6]),([5,7],[5,7]),([],[]),([9],[9]),([],[]),([11],[11]),([10,12],[10,12]),([8,13],[8,13]),([14],[14]),([0,15,4],[0,15]),([16],[16]),([17],[17]),([17],[17]),([],[]),([20,18,16,0,1,2,3,4,5,6,7,8,9,10,11,12,13,14,15,16,17,18,20],[18,20]),([19,21,0,1,2,3,4,5,6,7,8,9,10,11,12,13,14,15,16,17,18,19,20,21],[19])])
def backfillref11_Check.B9 : List Nat:=[0,0,2,0,8,30,0,64,254,0,512,0,2048,7680,16382,32766,65535,131071,262143,262143,0,1572863,4194303]
theorem backfillref11_Check.tab9 : rtab .any (opsOf Tryd.f32 9) = backfillref11_Check.T9:=by kernel_rfl
theorem backfillref11_Check.bits9 : waitsOk backfillref11_Check.T9.2 backfillref11_Check.B9 = true:=by kernel_rfl
set_option maxHeartbeats 8000000 in
set_option maxRecDepth 100000 in
theorem backfillref11_Check.calls (k : Nat) (a0_0 : Int) (a0_1 : Int) (a0_2 : Int) (a0_3 : Int) (a0_4 : Int) (a0_5 : Int) (a0_6 : Int) (a0_7 : Int) (r : Int) (w : World) (h : backfillref11_Check.f k a0_0 a0_1 a0_2 a0_3 a0_4 a0_5 a0_6 a0_7 = some r) :
  Calls Tryd.prog 32 #[.agg #[.int .i64 a0_0,.int .i64 a0_1,.int .i64 a0_2,.int .i64 a0_3,.int .i64 a0_4,.int .i64 a0_5,.int .i64 a0_6,.int .i64 a0_7]] w fun e w' => e = .returned (.int .i64 r) ∧ Below w.heap.size w w':=by
 have hu23:=Tryd.underlying23
 have hu94:=Tryd.underlying94
 have HB:=Aside0.mk (Below.refl w.heap.size w)
 have H : ((backfillref11_ranges.f k a0_0 a0_1 a0_2 a0_3 a0_4 a0_5 a0_6 a0_7).bind fun t333 => (if t333 = true then ((backfillref11_M.f a0_0 a0_1 a0_2 a0_3 a0_4 a0_5 a0_6 a0_7).bind fun t334 => (if t334 > 2147483648 then (some 111) else (if (wrap64 ((wrap64 ((wrap64 (a0_3 * 1099511627776)) + a0_4)) + (wrap64 (a0_5 * a0_0)))) ≥ 4611686018427387904 then (some 112) else ((backfillref11_off.f a0_0 a0_1 a0_2 a0_3 a0_4 a0_5 a0_6 a0_7).bind fun bt335 => ((backfillref01_Times.f bt335.1 bt335.2.1 1000).bind fun bt341 => ((backfillref11_bound.f a0_0 a0_1 a0_2 a0_3 a0_4 a0_5 a0_6 a0_7).bind fun t345 => ((backfillref01_Times.f bt335.2.2.1 bt335.2.2.2 (IntKind.u64.wrap (wrap64 ((wrap64 ((wrap64 (a0_3 * t345)) + a0_4)) + (wrap64 (a0_5 * a0_0)))))).bind fun bt346 => ((backfillref01_Cmp.f k bt341.1 bt341.2.1 bt346.1 bt346.2.1).bind fun t350 => (if t350 > 0 then (some 113) else (some 0)))))))))) else (some 110))) = some r:=h
 clear h;replace H:=Option.bind_eq_some_iff.mp H;obtain ⟨t333,A20,H⟩:=H;replace H : (if t333 = true then ((backfillref11_M.f a0_0 a0_1 a0_2 a0_3 a0_4 a0_5 a0_6 a0_7).bind fun t334 => (if t334 > 2147483648 then (some 111) else (if (wrap64 ((wrap64 ((wrap64 (a0_3 * 1099511627776)) + a0_4)) + (wrap64 (a0_5 * a0_0)))) ≥ 4611686018427387904 then (some 112) else ((backfillref11_off.f a0_0 a0_1 a0_2 a0_3 a0_4 a0_5 a0_6 a0_7).bind fun bt335 => ((backfillref01_Times.f bt335.1 bt335.2.1 1000).bind fun bt341 => ((backfillref11_bound.f a0_0 a0_1 a0_2 a0_3 a0_4 a0_5 a0_6 a0_7).bind fun t345 => ((backfillref01_Times.f bt335.2.2.1 bt335.2.2.2 (IntKind.u64.wrap (wrap64 ((wrap64 ((wrap64 (a0_3 * t345)) + a0_4)) + (wrap64 (a0_5 * a0_0)))))).bind fun bt346 => ((backfillref01_Cmp.f k bt341.1 bt341.2.1 bt346.1 bt346.2.1).bind fun t350 => (if t350 > 0 then (some 113) else (some 0)))))))))) else (some 110)) = some r:=H;have A2:=Aside0.mk A20;clear A20
 by_cases c3 : t333 = true
 ·subst c3
  have H1 : ((backfillref11_M.f a0_0 a0_1 a0_2 a0_3 a0_4 a0_5 a0_6 a0_7).bind fun t334 => (if t334 > 2147483648 then (some 111) else (if (wrap64 ((wrap64 ((wrap64 (a0_3 * 1099511627776)) + a0_4)) + (wrap64 (a0_5 * a0_0)))) ≥ 4611686018427387904 then (some 112) else ((backfillref11_off.f a0_0 a0_1 a0_2 a0_3 a0_4 a0_5 a0_6 a0_7).bind fun bt335 => ((backfillref01_Times.f bt335.1 bt335.2.1 1000).bind fun bt341 => ((backfillref11_bound.f a0_0 a0_1 a0_2 a0_3 a0_4 a0_5 a0_6 a0_7).bind fun t345 => ((backfillref01_Times.f bt335.2.2.1 bt335.2.2.2 (IntKind.u64.wrap (wrap64 ((wrap64 ((wrap64 (a0_3 * t345)) + a0_4)) + (wrap64 (a0_5 * a0_0)))))).bind fun bt346 => ((backfillref01_Cmp.f k bt341.1 bt341.2.1 bt346.1 bt346.2.1).bind fun t350 => (if t350 > 0 then (some 113) else (some 0)))))))))) = some r:=by rw [if_pos rfl] at H;exact H
  clear H
  have H:=H1
  clear H1;replace H:=Option.bind_eq_some_iff.mp H;obtain ⟨t334,A40,H⟩:=H;replace H : (if t334 > 2147483648 then (some 111) else (if (wrap64 ((wrap64 ((wrap64 (a0_3 * 1099511627776)) + a0_4)) + (wrap64 (a0_5 * a0_0)))) ≥ 4611686018427387904 then (some 112) else ((backfillref11_off.f a0_0 a0_1 a0_2 a0_3 a0_4 a0_5 a0_6 a0_7).bind fun bt335 => ((backfillref01_Times.f bt335.1 bt335.2.1 1000).bind fun bt341 => ((backfillref11_bound.f a0_0 a0_1 a0_2 a0_3 a0_4 a0_5 a0_6 a0_7).bind fun t345 => ((backfillref01_Times.f bt335.2.2.1 bt335.2.2.2 (IntKind.u64.wrap (wrap64 ((wrap64 ((wrap64 (a0_3 * t345)) + a0_4)) + (wrap64 (a0_5 * a0_0)))))).bind fun bt346 => ((backfillref01_Cmp.f k bt341.1 bt341.2.1 bt346.1 bt346.2.1).bind fun t350 => (if t350 > 0 then (some 113) else (some 0))))))))) = some r:=H;have A4:=Aside0.mk A40;clear A40
  by_cases c5 : t334 > 2147483648
  ·rw [if_pos c5] at H
   have c5b0 : decide (2147483648 < t334) = true:=decide_eq_true c5
   clear c5
   obtain rfl:=Option.some.inj H
   go_enter Tryd.func32,Tryd.ntmps32
   go_wp2_with (first | ((with_reducible refine gate_dst (N:=1) rfl ?_);refine bxA 1 #[.int .i64 a0_0,.int .i64 a0_1,.int .i64 a0_2,.int .i64 a0_3,.int .i64 a0_4,.int .i64 a0_5,.int .i64 a0_6,.int .i64 a0_7] 23 ?_;intro gb332 hg w6 hbox hb;have n0_:=Aside0.mk (below_step bA hb);have n1_:=Aside0.mk (hbox);have n2_:=Aside0.mk (gwA hg bA);have n3_:=Aside0.mk (gwA hg bA);clear HB;have HB:=n0_;have BK332:=n1_;have GW332:=n2_;have GE332:=n3_;clear n0_ n1_ n2_ n3_ hb hbox hg;have hcz7_0 : w6.cell? ⟨gb332,0,none⟩ = some (.int .i64 a0_0):=(blk_cell BK332.out 0).trans rfl;have hcz7_1 : w6.cell? ⟨gb332,1,none⟩ = some (.int .i64 a0_1):=(blk_cell BK332.out 1).trans rfl;have hcz7_2 : w6.cell? ⟨gb332,2,none⟩ = some (.int .i64 a0_2):=(blk_cell BK332.out 2).trans rfl;have hcz7_3 : w6.cell? ⟨gb332,3,none⟩ = some (.int .i64 a0_3):=(blk_cell BK332.out 3).trans rfl;have hcz7_4 : w6.cell? ⟨gb332,4,none⟩ = some (.int .i64 a0_4):=(blk_cell BK332.out 4).trans rfl;have hcz7_5 : w6.cell? ⟨gb332,5,none⟩ = some (.int .i64 a0_5):=(blk_cell BK332.out 5).trans rfl;have hcz7_6 : w6.cell? ⟨gb332,6,none⟩ = some (.int .i64 a0_6):=(blk_cell BK332.out 6).trans rfl;have hcz7_7 : w6.cell? ⟨gb332,7,none⟩ = some (.int .i64 a0_7):=(blk_cell BK332.out 7).trans rfl;have hfz7_0:=blk_frozen BK332.out 0;have hfz7_1:=blk_frozen BK332.out 1;have hfz7_2:=blk_frozen BK332.out 2;have hfz7_3:=blk_frozen BK332.out 3;have hfz7_4:=blk_frozen BK332.out 4;have hfz7_5:=blk_frozen BK332.out 5;have hfz7_6:=blk_frozen BK332.out 6;have hfz7_7:=blk_frozen BK332.out 7) | ((with_reducible refine gate_callee (f:=52) rfl ?_);refine goesL_ (some 10) rfl rfl Tryd.func52 (by kernel_rfl) rfl #[.agg #[.int .i64 a0_0,.int .i64 a0_1,.int .i64 a0_2,.int .i64 a0_3,.int .i64 a0_4,.int .i64 a0_5,.int .i64 a0_6,.int .i64 a0_7]] rfl aA ?_;(with_reducible refine (backfillref11_ranges.calls k a0_0 a0_1 a0_2 a0_3 a0_4 a0_5 a0_6 a0_7 true _ A2.out).mono ?_);rintro e w8 ⟨rfl,hb⟩;refine ⟨_,rfl,?_⟩;have n0_:=Aside0.mk (blk_below (g:=gb332) kA hb);have n1_:=Aside0.mk (below_step bA hb);clear BK332 HB;have BK332:=n0_;have HB:=n1_;clear n0_ n1_;(try clear hb);have hcz9_0 : w8.cell? ⟨gb332,0,none⟩ = some (.int .i64 a0_0):=(blk_cell BK332.out 0).trans rfl;have hcz9_1 : w8.cell? ⟨gb332,1,none⟩ = some (.int .i64 a0_1):=(blk_cell BK332.out 1).trans rfl;have hcz9_2 : w8.cell? ⟨gb332,2,none⟩ = some (.int .i64 a0_2):=(blk_cell BK332.out 2).trans rfl;have hcz9_3 : w8.cell? ⟨gb332,3,none⟩ = some (.int .i64 a0_3):=(blk_cell BK332.out 3).trans rfl;have hcz9_4 : w8.cell? ⟨gb332,4,none⟩ = some (.int .i64 a0_4):=(blk_cell BK332.out 4).trans rfl;have hcz9_5 : w8.cell? ⟨gb332,5,none⟩ = some (.int .i64 a0_5):=(blk_cell BK332.out 5).trans rfl;have hcz9_6 : w8.cell? ⟨gb332,6,none⟩ = some (.int .i64 a0_6):=(blk_cell BK332.out 6).trans rfl;have hcz9_7 : w8.cell? ⟨gb332,7,none⟩ = some (.int .i64 a0_7):=(blk_cell BK332.out 7).trans rfl;have hfz9_0:=blk_frozen BK332.out 0;have hfz9_1:=blk_frozen BK332.out 1;have hfz9_2:=blk_frozen BK332.out 2;have hfz9_3:=blk_frozen BK332.out 3;have hfz9_4:=blk_frozen BK332.out 4;have hfz9_5:=blk_frozen BK332.out 5;have hfz9_6:=blk_frozen BK332.out 6;have hfz9_7:=blk_frozen BK332.out 7) | ((with_reducible refine gate_callee (f:=53) rfl ?_);refine goesL_ (some 13) rfl rfl Tryd.func53 (by kernel_rfl) rfl #[.agg #[.int .i64 a0_0,.int .i64 a0_1,.int .i64 a0_2,.int .i64 a0_3,.int .i64 a0_4,.int .i64 a0_5,.int .i64 a0_6,.int .i64 a0_7]] rfl aA ?_;(with_reducible refine (backfillref11_M.calls a0_0 a0_1 a0_2 a0_3 a0_4 a0_5 a0_6 a0_7 t334 _ A4.out).mono ?_);rintro e w10 ⟨rfl,hb⟩;refine ⟨_,rfl,?_⟩;have n0_:=Aside0.mk (blk_below (g:=gb332) kA hb);have n1_:=Aside0.mk (below_step bA hb);clear BK332 HB;have BK332:=n0_;have HB:=n1_;clear n0_ n1_;(try clear hb)))
   go_ret
   exact ⟨by first | rfl | (simp [errW_none,errW_some] <;> rfl) | (simp [*,errW_none,errW_some] <;> rfl),bA⟩
  ·rw [if_neg c5] at H
   have c5b0 : decide (2147483648 < t334) = false:=decide_eq_false c5
   clear c5
   by_cases c11 : (wrap64 ((wrap64 ((wrap64 (a0_3 * 1099511627776)) + a0_4)) + (wrap64 (a0_5 * a0_0)))) ≥ 4611686018427387904
   ·rw [if_pos c11] at H
    have c11b0 : decide (4611686018427387904 ≤ (wrap64 ((wrap64 ((wrap64 (a0_3 * 1099511627776)) + a0_4)) + (wrap64 (a0_5 * a0_0))))) = true:=decide_eq_true c11
    clear c11
    obtain rfl:=Option.some.inj H
    go_enter Tryd.func32,Tryd.ntmps32
    go_wp2_with (first | ((with_reducible refine gate_dst (N:=1) rfl ?_);refine bxA 1 #[.int .i64 a0_0,.int .i64 a0_1,.int .i64 a0_2,.int .i64 a0_3,.int .i64 a0_4,.int .i64 a0_5,.int .i64 a0_6,.int .i64 a0_7] 23 ?_;intro gb332 hg w12 hbox hb;have n0_:=Aside0.mk (below_step bA hb);have n1_:=Aside0.mk (hbox);have n2_:=Aside0.mk (gwA hg bA);have n3_:=Aside0.mk (gwA hg bA);clear HB;have HB:=n0_;have BK332:=n1_;have GW332:=n2_;have GE332:=n3_;clear n0_ n1_ n2_ n3_ hb hbox hg;have hcz13_0 : w12.cell? ⟨gb332,0,none⟩ = some (.int .i64 a0_0):=(blk_cell BK332.out 0).trans rfl;have hcz13_1 : w12.cell? ⟨gb332,1,none⟩ = some (.int .i64 a0_1):=(blk_cell BK332.out 1).trans rfl;have hcz13_2 : w12.cell? ⟨gb332,2,none⟩ = some (.int .i64 a0_2):=(blk_cell BK332.out 2).trans rfl;have hcz13_3 : w12.cell? ⟨gb332,3,none⟩ = some (.int .i64 a0_3):=(blk_cell BK332.out 3).trans rfl;have hcz13_4 : w12.cell? ⟨gb332,4,none⟩ = some (.int .i64 a0_4):=(blk_cell BK332.out 4).trans rfl;have hcz13_5 : w12.cell? ⟨gb332,5,none⟩ = some (.int .i64 a0_5):=(blk_cell BK332.out 5).trans rfl;have hcz13_6 : w12.cell? ⟨gb332,6,none⟩ = some (.int .i64 a0_6):=(blk_cell BK332.out 6).trans rfl;have hcz13_7 : w12.cell? ⟨gb332,7,none⟩ = some (.int .i64 a0_7):=(blk_cell BK332.out 7).trans rfl;have hfz13_0:=blk_frozen BK332.out 0;have hfz13_1:=blk_frozen BK332.out 1;have hfz13_2:=blk_frozen BK332.out 2;have hfz13_3:=blk_frozen BK332.out 3;have hfz13_4:=blk_frozen BK332.out 4;have hfz13_5:=blk_frozen BK332.out 5;have hfz13_6:=blk_frozen BK332.out 6;have hfz13_7:=blk_frozen BK332.out 7) | ((with_reducible refine gate_callee (f:=52) rfl ?_);refine goesL_ (some 10) rfl rfl Tryd.func52 (by kernel_rfl) rfl #[.agg #[.int .i64 a0_0,.int .i64 a0_1,.int .i64 a0_2,.int .i64 a0_3,.int .i64 a0_4,.int .i64 a0_5,.int .i64 a0_6,.int .i64 a0_7]] rfl aA ?_;(with_reducible refine (backfillref11_ranges.calls k a0_0 a0_1 a0_2 a0_3 a0_4 a0_5 a0_6 a0_7 true _ A2.out).mono ?_);rintro e w14 ⟨rfl,hb⟩;refine ⟨_,rfl,?_⟩;have n0_:=Aside0.mk (blk_below (g:=gb332) kA hb);have n1_:=Aside0.mk (below_step bA hb);clear BK332 HB;have BK332:=n0_;have HB:=n1_;clear n0_ n1_;(try clear hb);have hcz15_0 : w14.cell? ⟨gb332,0,none⟩ = some (.int .i64 a0_0):=(blk_cell BK332.out 0).trans rfl;have hcz15_1 : w14.cell? ⟨gb332,1,none⟩ = some (.int .i64 a0_1):=(blk_cell BK332.out 1).trans rfl;have hcz15_2 : w14.cell? ⟨gb332,2,none⟩ = some (.int .i64 a0_2):=(blk_cell BK332.out 2).trans rfl;have hcz15_3 : w14.cell? ⟨gb332,3,none⟩ = some (.int .i64 a0_3):=(blk_cell BK332.out 3).trans rfl;have hcz15_4 : w14.cell? ⟨gb332,4,none⟩ = some (.int .i64 a0_4):=(blk_cell BK332.out 4).trans rfl;have hcz15_5 : w14.cell? ⟨gb332,5,none⟩ = some (.int .i64 a0_5):=(blk_cell BK332.out 5).trans rfl;have hcz15_6 : w14.cell? ⟨gb332,6,none⟩ = some (.int .i64 a0_6):=(blk_cell BK332.out 6).trans rfl;have hcz15_7 : w14.cell? ⟨gb332,7,none⟩ = some (.int .i64 a0_7):=(blk_cell BK332.out 7).trans rfl;have hfz15_0:=blk_frozen BK332.out 0;have hfz15_1:=blk_frozen BK332.out 1;have hfz15_2:=blk_frozen BK332.out 2;have hfz15_3:=blk_frozen BK332.out 3;have hfz15_4:=blk_frozen BK332.out 4;have hfz15_5:=blk_frozen BK332.out 5;have hfz15_6:=blk_frozen BK332.out 6;have hfz15_7:=blk_frozen BK332.out 7) | ((with_reducible refine gate_callee (f:=53) rfl ?_);refine goesL_ (some 13) rfl rfl Tryd.func53 (by kernel_rfl) rfl #[.agg #[.int .i64 a0_0,.int .i64 a0_1,.int .i64 a0_2,.int .i64 a0_3,.int .i64 a0_4,.int .i64 a0_5,.int .i64 a0_6,.int .i64 a0_7]] rfl aA ?_;(with_reducible refine (backfillref11_M.calls a0_0 a0_1 a0_2 a0_3 a0_4 a0_5 a0_6 a0_7 t334 _ A4.out).mono ?_);rintro e w16 ⟨rfl,hb⟩;refine ⟨_,rfl,?_⟩;have n0_:=Aside0.mk (blk_below (g:=gb332) kA hb);have n1_:=Aside0.mk (below_step bA hb);clear BK332 HB;have BK332:=n0_;have HB:=n1_;clear n0_ n1_;(try clear hb);have hcz17_0 : w16.cell? ⟨gb332,0,none⟩ = some (.int .i64 a0_0):=(blk_cell BK332.out 0).trans rfl;have hcz17_1 : w16.cell? ⟨gb332,1,none⟩ = some (.int .i64 a0_1):=(blk_cell BK332.out 1).trans rfl;have hcz17_2 : w16.cell? ⟨gb332,2,none⟩ = some (.int .i64 a0_2):=(blk_cell BK332.out 2).trans rfl;have hcz17_3 : w16.cell? ⟨gb332,3,none⟩ = some (.int .i64 a0_3):=(blk_cell BK332.out 3).trans rfl;have hcz17_4 : w16.cell? ⟨gb332,4,none⟩ = some (.int .i64 a0_4):=(blk_cell BK332.out 4).trans rfl;have hcz17_5 : w16.cell? ⟨gb332,5,none⟩ = some (.int .i64 a0_5):=(blk_cell BK332.out 5).trans rfl;have hcz17_6 : w16.cell? ⟨gb332,6,none⟩ = some (.int .i64 a0_6):=(blk_cell BK332.out 6).trans rfl;have hcz17_7 : w16.cell? ⟨gb332,7,none⟩ = some (.int .i64 a0_7):=(blk_cell BK332.out 7).trans rfl;have hfz17_0:=blk_frozen BK332.out 0;have hfz17_1:=blk_frozen BK332.out 1;have hfz17_2:=blk_frozen BK332.out 2;have hfz17_3:=blk_frozen BK332.out 3;have hfz17_4:=blk_frozen BK332.out 4;have hfz17_5:=blk_frozen BK332.out 5;have hfz17_6:=blk_frozen BK332.out 6;have hfz17_7:=blk_frozen BK332.out 7))
    go_ret
    exact ⟨by first | rfl | (simp [errW_none,errW_some] <;> rfl) | (simp [*,errW_none,errW_some] <;> rfl),bA⟩
   ·rw [if_neg c11] at H
    have c11b0 : decide (4611686018427387904 ≤ (wrap64 ((wrap64 ((wrap64 (a0_3 * 1099511627776)) + a0_4)) + (wrap64 (a0_5 * a0_0))))) = false:=decide_eq_false c11
    clear c11;replace H:=Option.bind_eq_some_iff.mp H;obtain ⟨⟨t335,t336,t337,t338⟩,A180,H⟩:=H;replace H : ((backfillref01_Times.f t335 t336 1000).bind fun bt341 => ((backfillref11_bound.f a0_0 a0_1 a0_2 a0_3 a0_4 a0_5 a0_6 a0_7).bind fun t345 => ((backfillref01_Times.f t337 t338 (IntKind.u64.wrap (wrap64 ((wrap64 ((wrap64 (a0_3 * t345)) + a0_4)) + (wrap64 (a0_5 * a0_0)))))).bind fun bt346 => ((backfillref01_Cmp.f k bt341.1 bt341.2.1 bt346.1 bt346.2.1).bind fun t350 => (if t350 > 0 then (some 113) else (some 0)))))) = some r:=H;have A18:=Aside0.mk A180;clear A180;replace H:=Option.bind_eq_some_iff.mp H;obtain ⟨⟨t341,t342,t343⟩,A190,H⟩:=H;replace H : ((backfillref11_bound.f a0_0 a0_1 a0_2 a0_3 a0_4 a0_5 a0_6 a0_7).bind fun t345 => ((backfillref01_Times.f t337 t338 (IntKind.u64.wrap (wrap64 ((wrap64 ((wrap64 (a0_3 * t345)) + a0_4)) + (wrap64 (a0_5 * a0_0)))))).bind fun bt346 => ((backfillref01_Cmp.f k t341 t342 bt346.1 bt346.2.1).bind fun t350 => (if t350 > 0 then (some 113) else (some 0))))) = some r:=H;have A19:=Aside0.mk A190;clear A190;replace H:=Option.bind_eq_some_iff.mp H;obtain ⟨t345,A200,H⟩:=H;replace H : ((backfillref01_Times.f t337 t338 (IntKind.u64.wrap (wrap64 ((wrap64 ((wrap64 (a0_3 * t345)) + a0_4)) + (wrap64 (a0_5 * a0_0)))))).bind fun bt346 => ((backfillref01_Cmp.f k t341 t342 bt346.1 bt346.2.1).bind fun t350 => (if t350 > 0 then (some 113) else (some 0)))) = some r:=H;have A20:=Aside0.mk A200;clear A200;replace H:=Option.bind_eq_some_iff.mp H;obtain ⟨⟨t346,t347,t348⟩,A210,H⟩:=H;replace H : ((backfillref01_Cmp.f k t341 t342 t346 t347).bind fun t350 => (if t350 > 0 then (some 113) else (some 0))) = some r:=H;have A21:=Aside0.mk A210;clear A210;replace H:=Option.bind_eq_some_iff.mp H;obtain ⟨t350,A220,H⟩:=H;replace H : (if t350 > 0 then (some 113) else (some 0)) = some r:=H;have A22:=Aside0.mk A220;clear A220
    go_enter Tryd.func32,Tryd.ntmps32
    try go_wp2_with (first | ((with_reducible refine gate_dst (N:=1) rfl ?_);refine bxA 1 #[.int .i64 a0_0,.int .i64 a0_1,.int .i64 a0_2,.int .i64 a0_3,.int .i64 a0_4,.int .i64 a0_5,.int .i64 a0_6,.int .i64 a0_7] 23 ?_;intro gb332 hg w24 hbox hb;have n0_:=Aside0.mk (below_step bA hb);have n1_:=Aside0.mk (hbox);have n2_:=Aside0.mk (gwA hg bA);have n3_:=Aside0.mk (gwA hg bA);clear HB;have HB:=n0_;have BK332:=n1_;have GW332:=n2_;have GE332:=n3_;clear n0_ n1_ n2_ n3_ hb hbox hg;have hcz25_0 : w24.cell? ⟨gb332,0,none⟩ = some (.int .i64 a0_0):=(blk_cell BK332.out 0).trans rfl;have hcz25_1 : w24.cell? ⟨gb332,1,none⟩ = some (.int .i64 a0_1):=(blk_cell BK332.out 1).trans rfl;have hcz25_2 : w24.cell? ⟨gb332,2,none⟩ = some (.int .i64 a0_2):=(blk_cell BK332.out 2).trans rfl;have hcz25_3 : w24.cell? ⟨gb332,3,none⟩ = some (.int .i64 a0_3):=(blk_cell BK332.out 3).trans rfl;have hcz25_4 : w24.cell? ⟨gb332,4,none⟩ = some (.int .i64 a0_4):=(blk_cell BK332.out 4).trans rfl;have hcz25_5 : w24.cell? ⟨gb332,5,none⟩ = some (.int .i64 a0_5):=(blk_cell BK332.out 5).trans rfl;have hcz25_6 : w24.cell? ⟨gb332,6,none⟩ = some (.int .i64 a0_6):=(blk_cell BK332.out 6).trans rfl;have hcz25_7 : w24.cell? ⟨gb332,7,none⟩ = some (.int .i64 a0_7):=(blk_cell BK332.out 7).trans rfl;have hfz25_0:=blk_frozen BK332.out 0;have hfz25_1:=blk_frozen BK332.out 1;have hfz25_2:=blk_frozen BK332.out 2;have hfz25_3:=blk_frozen BK332.out 3;have hfz25_4:=blk_frozen BK332.out 4;have hfz25_5:=blk_frozen BK332.out 5;have hfz25_6:=blk_frozen BK332.out 6;have hfz25_7:=blk_frozen BK332.out 7) | ((with_reducible refine gate_callee (f:=52) rfl ?_);refine goesL_ (some 10) rfl rfl Tryd.func52 (by kernel_rfl) rfl #[.agg #[.int .i64 a0_0,.int .i64 a0_1,.int .i64 a0_2,.int .i64 a0_3,.int .i64 a0_4,.int .i64 a0_5,.int .i64 a0_6,.int .i64 a0_7]] rfl aA ?_;(with_reducible refine (backfillref11_ranges.calls k a0_0 a0_1 a0_2 a0_3 a0_4 a0_5 a0_6 a0_7 true _ A2.out).mono ?_);rintro e w26 ⟨rfl,hb⟩;refine ⟨_,rfl,?_⟩;have n0_:=Aside0.mk (blk_below (g:=gb332) kA hb);have n1_:=Aside0.mk (below_step bA hb);clear BK332 HB;have BK332:=n0_;have HB:=n1_;clear n0_ n1_;(try clear hb);have hcz27_0 : w26.cell? ⟨gb332,0,none⟩ = some (.int .i64 a0_0):=(blk_cell BK332.out 0).trans rfl;have hcz27_1 : w26.cell? ⟨gb332,1,none⟩ = some (.int .i64 a0_1):=(blk_cell BK332.out 1).trans rfl;have hcz27_2 : w26.cell? ⟨gb332,2,none⟩ = some (.int .i64 a0_2):=(blk_cell BK332.out 2).trans rfl;have hcz27_3 : w26.cell? ⟨gb332,3,none⟩ = some (.int .i64 a0_3):=(blk_cell BK332.out 3).trans rfl;have hcz27_4 : w26.cell? ⟨gb332,4,none⟩ = some (.int .i64 a0_4):=(blk_cell BK332.out 4).trans rfl;have hcz27_5 : w26.cell? ⟨gb332,5,none⟩ = some (.int .i64 a0_5):=(blk_cell BK332.out 5).trans rfl;have hcz27_6 : w26.cell? ⟨gb332,6,none⟩ = some (.int .i64 a0_6):=(blk_cell BK332.out 6).trans rfl;have hcz27_7 : w26.cell? ⟨gb332,7,none⟩ = some (.int .i64 a0_7):=(blk_cell BK332.out 7).trans rfl;have hfz27_0:=blk_frozen BK332.out 0;have hfz27_1:=blk_frozen BK332.out 1;have hfz27_2:=blk_frozen BK332.out 2;have hfz27_3:=blk_frozen BK332.out 3;have hfz27_4:=blk_frozen BK332.out 4;have hfz27_5:=blk_frozen BK332.out 5;have hfz27_6:=blk_frozen BK332.out 6;have hfz27_7:=blk_frozen BK332.out 7) | ((with_reducible refine gate_callee (f:=53) rfl ?_);refine goesL_ (some 13) rfl rfl Tryd.func53 (by kernel_rfl) rfl #[.agg #[.int .i64 a0_0,.int .i64 a0_1,.int .i64 a0_2,.int .i64 a0_3,.int .i64 a0_4,.int .i64 a0_5,.int .i64 a0_6,.int .i64 a0_7]] rfl aA ?_;(with_reducible refine (backfillref11_M.calls a0_0 a0_1 a0_2 a0_3 a0_4 a0_5 a0_6 a0_7 t334 _ A4.out).mono ?_);rintro e w28 ⟨rfl,hb⟩;refine ⟨_,rfl,?_⟩;have n0_:=Aside0.mk (blk_below (g:=gb332) kA hb);have n1_:=Aside0.mk (below_step bA hb);clear BK332 HB;have BK332:=n0_;have HB:=n1_;clear n0_ n1_;(try clear hb);have hcz29_0 : w28.cell? ⟨gb332,0,none⟩ = some (.int .i64 a0_0):=(blk_cell BK332.out 0).trans rfl;have hcz29_1 : w28.cell? ⟨gb332,1,none⟩ = some (.int .i64 a0_1):=(blk_cell BK332.out 1).trans rfl;have hcz29_2 : w28.cell? ⟨gb332,2,none⟩ = some (.int .i64 a0_2):=(blk_cell BK332.out 2).trans rfl;have hcz29_3 : w28.cell? ⟨gb332,3,none⟩ = some (.int .i64 a0_3):=(blk_cell BK332.out 3).trans rfl;have hcz29_4 : w28.cell? ⟨gb332,4,none⟩ = some (.int .i64 a0_4):=(blk_cell BK332.out 4).trans rfl;have hcz29_5 : w28.cell? ⟨gb332,5,none⟩ = some (.int .i64 a0_5):=(blk_cell BK332.out 5).trans rfl;have hcz29_6 : w28.cell? ⟨gb332,6,none⟩ = some (.int .i64 a0_6):=(blk_cell BK332.out 6).trans rfl;have hcz29_7 : w28.cell? ⟨gb332,7,none⟩ = some (.int .i64 a0_7):=(blk_cell BK332.out 7).trans rfl;have hfz29_0:=blk_frozen BK332.out 0;have hfz29_1:=blk_frozen BK332.out 1;have hfz29_2:=blk_frozen BK332.out 2;have hfz29_3:=blk_frozen BK332.out 3;have hfz29_4:=blk_frozen BK332.out 4;have hfz29_5:=blk_frozen BK332.out 5;have hfz29_6:=blk_frozen BK332.out 6;have hfz29_7:=blk_frozen BK332.out 7) | ((with_reducible refine gate_callee (f:=54) rfl ?_);refine goesL_ (some 30) rfl rfl Tryd.func54 (by kernel_rfl) rfl #[.agg #[.int .i64 a0_0,.int .i64 a0_1,.int .i64 a0_2,.int .i64 a0_3,.int .i64 a0_4,.int .i64 a0_5,.int .i64 a0_6,.int .i64 a0_7]] rfl aA ?_;(with_reducible refine (backfillref11_off.calls a0_0 a0_1 a0_2 a0_3 a0_4 a0_5 a0_6 a0_7 t335 t336 t337 t338 _ A18.out).mono ?_);rintro e w30 ⟨rfl,hb⟩;refine ⟨_,rfl,?_⟩;have n0_:=Aside0.mk (blk_below (g:=gb332) kA hb);have n1_:=Aside0.mk (below_step bA hb);clear BK332 HB;have BK332:=n0_;have HB:=n1_;clear n0_ n1_;(try clear hb)) | ((with_reducible refine gate_dst (N:=3) rfl ?_);refine bxA 3 #[.int .u64 0,.int .u64 0] 94 ?_;intro gb339 hg w31 hbox hb;have n0_:=Aside0.mk (blk_below (g:=gb332) kA hb);have n1_:=Aside0.mk (below_step bA hb);have n2_:=Aside0.mk (hbox);have n3_:=Aside0.mk (gwA hg bA);have n4_:=Aside0.mk (gwA hg bA);have n5_:=Aside0.mk (neA (g:=gb332) hg kA);have n6_:=Aside0.mk (neB (g:=gb332) hg kA);clear BK332 HB;have BK332:=n0_;have HB:=n1_;have BK339:=n2_;have GW339:=n3_;have GE339:=n4_;have NB332_339:=n5_;have NB339_332:=n6_;clear n0_ n1_ n2_ n3_ n4_ n5_ n6_ hb hbox hg) | ((with_reducible refine gate_dst (N:=4) rfl ?_);refine bxA 4 #[.int .u64 0,.int .u64 0] 94 ?_;intro gb340 hg w32 hbox hb;have n0_:=Aside0.mk (blk_below (g:=gb332) kA hb);have n1_:=Aside0.mk (blk_below (g:=gb339) kA hb);have n2_:=Aside0.mk (below_step bA hb);have n3_:=Aside0.mk (hbox);have n4_:=Aside0.mk (gwA hg bA);have n5_:=Aside0.mk (gwA hg bA);have n6_:=Aside0.mk (neA (g:=gb332) hg kA);have n7_:=Aside0.mk (neB (g:=gb332) hg kA);have n8_:=Aside0.mk (neA (g:=gb339) hg kA);have n9_:=Aside0.mk (neB (g:=gb339) hg kA);clear BK332 BK339 HB;have BK332:=n0_;have BK339:=n1_;have HB:=n2_;have BK340:=n3_;have GW340:=n4_;have GE340:=n5_;have NB332_340:=n6_;have NB340_332:=n7_;have NB339_340:=n8_;have NB340_339:=n9_;clear n0_ n1_ n2_ n3_ n4_ n5_ n6_ n7_ n8_ n9_ hb hbox hg;have hnb33:=NB339_332.out;have hnc33:=NB332_339.out;have hnb34:=NB339_340.out;have hnc34:=NB340_339.out;have hcz35_0 : w32.cell? ⟨gb339,0,none⟩ = some (.int .u64 0):=(blk_cell BK339.out 0).trans rfl;have hcz35_1 : w32.cell? ⟨gb339,1,none⟩ = some (.int .u64 0):=(blk_cell BK339.out 1).trans rfl;have hfz35_0:=blk_frozen BK339.out 0;have hfz35_1:=blk_frozen BK339.out 1;have hnb36:=NB340_332.out;have hnc36:=NB332_340.out;have hcz37_0 : w32.cell? ⟨gb340,0,none⟩ = some (.int .u64 0):=(blk_cell BK340.out 0).trans rfl;have hcz37_1 : w32.cell? ⟨gb340,1,none⟩ = some (.int .u64 0):=(blk_cell BK340.out 1).trans rfl;have hfz37_0:=blk_frozen BK340.out 0;have hfz37_1:=blk_frozen BK340.out 1) | ((with_reducible refine gate_callee (f:=55) rfl ?_);refine goesL_ (some 35) rfl rfl Tryd.func55 (by kernel_rfl) rfl #[.agg #[.int .u64 t335,.int .u64 t336],.int .u64 1000] rfl aA ?_;(with_reducible refine (backfillref01_Times.calls t335 t336 1000 t341 t342 t343 _ A19.out).mono ?_);rintro e w38 ⟨rfl,hb⟩;refine ⟨_,rfl,?_⟩;have n0_:=Aside0.mk (blk_below (g:=gb332) (o:=.cells #[.int .i64 a0_0,.int .i64 a0_1,.int .i64 a0_2,.int .i64 a0_3,.int .i64 a0_4,.int .i64 a0_5,.int .i64 a0_6,.int .i64 a0_7] 23 (0,0)) (by (with_reducible repeat (first | refine blk_drewN ?_ _ | refine blk_drew ?_ | refine blk_alloc ?_ _));refine blk_far ?_ NB332_340.out _;(with_reducible repeat (first | refine blk_drewN ?_ _ | refine blk_drew ?_ | refine blk_alloc ?_ _));refine blk_far ?_ NB332_340.out _;(with_reducible repeat (first | refine blk_drewN ?_ _ | refine blk_drew ?_ | refine blk_alloc ?_ _));refine blk_far ?_ NB332_339.out _;(with_reducible repeat (first | refine blk_drewN ?_ _ | refine blk_drew ?_ | refine blk_alloc ?_ _));refine blk_far ?_ NB332_339.out _;exact kA) hb);have n1_:=Aside0.mk (blk_below (g:=gb339) (o:=.cells #[.int .u64 t335,.int .u64 t336] 94 (0,0)) (by (with_reducible repeat (first | refine blk_drewN ?_ _ | refine blk_drew ?_ | refine blk_alloc ?_ _));refine blk_far ?_ NB339_340.out _;(with_reducible repeat (first | refine blk_drewN ?_ _ | refine blk_drew ?_ | refine blk_alloc ?_ _));refine blk_far ?_ NB339_340.out _;(with_reducible repeat (first | refine blk_drewN ?_ _ | refine blk_drew ?_ | refine blk_alloc ?_ _));refine blk_put (cs:=#[.int .u64 t335,.int .u64 0]) ?_ 1 _ rfl;(with_reducible repeat (first | refine blk_drewN ?_ _ | refine blk_drew ?_ | refine blk_alloc ?_ _));refine blk_put (cs:=#[.int .u64 0,.int .u64 0]) ?_ 0 _ rfl;exact kA) hb);have n2_:=Aside0.mk (blk_below (g:=gb340) (o:=.cells #[.int .u64 t337,.int .u64 t338] 94 (0,0)) (by (with_reducible repeat (first | refine blk_drewN ?_ _ | refine blk_drew ?_ | refine blk_alloc ?_ _));refine blk_put (cs:=#[.int .u64 t337,.int .u64 0]) ?_ 1 _ rfl;(with_reducible repeat (first | refine blk_drewN ?_ _ | refine blk_drew ?_ | refine blk_alloc ?_ _));refine blk_put (cs:=#[.int .u64 0,.int .u64 0]) ?_ 0 _ rfl;(with_reducible repeat (first | refine blk_drewN ?_ _ | refine blk_drew ?_ | refine blk_alloc ?_ _));refine blk_far ?_ NB340_339.out _;(with_reducible repeat (first | refine blk_drewN ?_ _ | refine blk_drew ?_ | refine blk_alloc ?_ _));refine blk_far ?_ NB340_339.out _;exact kA) hb);have n3_:=Aside0.mk (below_step bA hb);clear BK332 BK339 BK340 HB;have BK332:=n0_;have BK339:=n1_;have BK340:=n2_;have HB:=n3_;clear n0_ n1_ n2_ n3_;(try clear hb)) | ((with_reducible refine gate_dst (N:=5) rfl ?_);refine bxA 5 #[.int .u64 0,.int .u64 0] 94 ?_;intro gb344 hg w39 hbox hb;have n0_:=Aside0.mk (blk_below (g:=gb332) kA hb);have n1_:=Aside0.mk (blk_below (g:=gb339) kA hb);have n2_:=Aside0.mk (blk_below (g:=gb340) kA hb);have n3_:=Aside0.mk (below_step bA hb);have n4_:=Aside0.mk (hbox);have n5_:=Aside0.mk (gwA hg bA);have n6_:=Aside0.mk (gwA hg bA);have n7_:=Aside0.mk (neA (g:=gb332) hg kA);have n8_:=Aside0.mk (neB (g:=gb332) hg kA);have n9_:=Aside0.mk (neA (g:=gb339) hg kA);have n10_:=Aside0.mk (neB (g:=gb339) hg kA);have n11_:=Aside0.mk (neA (g:=gb340) hg kA);have n12_:=Aside0.mk (neB (g:=gb340) hg kA);clear BK332 BK339 BK340 HB;have BK332:=n0_;have BK339:=n1_;have BK340:=n2_;have HB:=n3_;have BK344:=n4_;have GW344:=n5_;have GE344:=n6_;have NB332_344:=n7_;have NB344_332:=n8_;have NB339_344:=n9_;have NB344_339:=n10_;have NB340_344:=n11_;have NB344_340:=n12_;clear n0_ n1_ n2_ n3_ n4_ n5_ n6_ n7_ n8_ n9_ n10_ n11_ n12_ hb hbox hg;have hnb40:=NB344_332.out;have hnc40:=NB332_344.out;have hnb41:=NB344_339.out;have hnc41:=NB339_344.out;have hnb42:=NB344_340.out;have hnc42:=NB340_344.out;have hcz43_0 : w39.cell? ⟨gb344,0,none⟩ = some (.int .u64 0):=(blk_cell BK344.out 0).trans rfl;have hcz43_1 : w39.cell? ⟨gb344,1,none⟩ = some (.int .u64 0):=(blk_cell BK344.out 1).trans rfl;have hfz43_0:=blk_frozen BK344.out 0;have hfz43_1:=blk_frozen BK344.out 1))
    have n0_ : Aside0 (((w39.setCell ⟨gb344,0,none⟩ (.int .u64 t341)).setCell ⟨gb344,1,none⟩ (.int .u64 t342)).heap[gb332]? = some (.cells #[.int .i64 a0_0,.int .i64 a0_1,.int .i64 a0_2,.int .i64 a0_3,.int .i64 a0_4,.int .i64 a0_5,.int .i64 a0_6,.int .i64 a0_7] 23 (0,0))):=⟨by (with_reducible repeat (first | refine blk_drewN ?_ _ | refine blk_drew ?_ | refine blk_alloc ?_ _));refine blk_far ?_ NB332_344.out _;(with_reducible repeat (first | refine blk_drewN ?_ _ | refine blk_drew ?_ | refine blk_alloc ?_ _));refine blk_far ?_ NB332_344.out _;exact kA⟩
    have n1_ : Aside0 (((w39.setCell ⟨gb344,0,none⟩ (.int .u64 t341)).setCell ⟨gb344,1,none⟩ (.int .u64 t342)).heap[gb339]? = some (.cells #[.int .u64 t335,.int .u64 t336] 94 (0,0))):=⟨by (with_reducible repeat (first | refine blk_drewN ?_ _ | refine blk_drew ?_ | refine blk_alloc ?_ _));refine blk_far ?_ NB339_344.out _;(with_reducible repeat (first | refine blk_drewN ?_ _ | refine blk_drew ?_ | refine blk_alloc ?_ _));refine blk_far ?_ NB339_344.out _;exact kA⟩
    have n2_ : Aside0 (((w39.setCell ⟨gb344,0,none⟩ (.int .u64 t341)).setCell ⟨gb344,1,none⟩ (.int .u64 t342)).heap[gb340]? = some (.cells #[.int .u64 t337,.int .u64 t338] 94 (0,0))):=⟨by (with_reducible repeat (first | refine blk_drewN ?_ _ | refine blk_drew ?_ | refine blk_alloc ?_ _));refine blk_far ?_ NB340_344.out _;(with_reducible repeat (first | refine blk_drewN ?_ _ | refine blk_drew ?_ | refine blk_alloc ?_ _));refine blk_far ?_ NB340_344.out _;exact kA⟩
    have n3_ : Aside0 (((w39.setCell ⟨gb344,0,none⟩ (.int .u64 t341)).setCell ⟨gb344,1,none⟩ (.int .u64 t342)).heap[gb344]? = some (.cells #[.int .u64 t341,.int .u64 t342] 94 (0,0))):=⟨by (with_reducible repeat (first | refine blk_drewN ?_ _ | refine blk_drew ?_ | refine blk_alloc ?_ _));refine blk_put (cs:=#[.int .u64 t341,.int .u64 0]) ?_ 1 _ rfl;(with_reducible repeat (first | refine blk_drewN ?_ _ | refine blk_drew ?_ | refine blk_alloc ?_ _));refine blk_put (cs:=#[.int .u64 0,.int .u64 0]) ?_ 0 _ rfl;exact kA⟩
    have n4_ : Aside0 (Below w.heap.size w ((w39.setCell ⟨gb344,0,none⟩ (.int .u64 t341)).setCell ⟨gb344,1,none⟩ (.int .u64 t342))):=⟨bA⟩
    (try clear BK332);(try clear BK339);(try clear BK340);(try clear BK344);(try clear HB)
    generalize ((w39.setCell ⟨gb344,0,none⟩ (.int .u64 t341)).setCell ⟨gb344,1,none⟩ (.int .u64 t342)) = w44 at n0_ n1_ n2_ n3_ n4_ ⊢
    have BK332:=n0_;have BK339:=n1_;have BK340:=n2_;have BK344:=n3_;have HB:=n4_;clear n0_ n1_ n2_ n3_ n4_;have n0_:=Aside0.mk (blk_drew BK332.out);have n1_:=Aside0.mk (blk_drew BK339.out);have n2_:=Aside0.mk (blk_drew BK340.out);have n3_:=Aside0.mk (blk_drew BK344.out);have n4_:=Aside0.mk (below_drew1 HB.out);clear BK332 BK339 BK340 BK344 HB;have BK332:=n0_;have BK339:=n1_;have BK340:=n2_;have BK344:=n3_;have HB:=n4_;clear n0_ n1_ n2_ n3_ n4_
    refine start_ (n:=23) (S:=fun w' => w'.cell? ⟨gb340,0,none⟩ = some (.int .u64 t337) ∧ w'.cell? ⟨gb340,1,none⟩ = some (.int .u64 t338) ∧ w'.cell? ⟨gb332,0,none⟩ = some (.int .i64 a0_0) ∧ w'.cell? ⟨gb332,1,none⟩ = some (.int .i64 a0_1) ∧ w'.cell? ⟨gb332,2,none⟩ = some (.int .i64 a0_2) ∧ w'.cell? ⟨gb332,3,none⟩ = some (.int .i64 a0_3) ∧ w'.cell? ⟨gb332,4,none⟩ = some (.int .i64 a0_4) ∧ w'.cell? ⟨gb332,5,none⟩ = some (.int .i64 a0_5) ∧ w'.cell? ⟨gb332,6,none⟩ = some (.int .i64 a0_6) ∧ w'.cell? ⟨gb332,7,none⟩ = some (.int .i64 a0_7)) (ds:=[]) #[false,false,false,false,false,false,false,false,false,false,false,false,false,false,false,false,false,false,false,false,false,false,false] (by kernel_rfl) rfl rfl ⟨(blk_cell BK340.out 0).trans rfl,(blk_cell BK340.out 1).trans rfl,(blk_cell BK332.out 0).trans rfl,(blk_cell BK332.out 1).trans rfl,(blk_cell BK332.out 2).trans rfl,(blk_cell BK332.out 3).trans rfl,(blk_cell BK332.out 4).trans rfl,(blk_cell BK332.out 5).trans rfl,(blk_cell BK332.out 6).trans rfl,(blk_cell BK332.out 7).trans rfl⟩ (fun hHeld => ?_);refine with_tabW backfillref11_Check.tab9 backfillref11_Check.bits9 (fun HT_ HW_ => ?_)
    generalize w44.drew = w45 at BK332 BK339 BK340 BK344 HB hHeld ⊢
    refine pure_ (i:=1) (N:=some 40) (v:=?_) (a':=?_) #[false,true,false,false,false,false,false,false,false,false,false,false,false,false,false,false,false,false,false,false,false,false,false] rfl rfl (any_of HT_.out (by kernel_rfl)) (fun _ _ _ h => h) (Or.inl ⟨by rfl,?_⟩) ?_ ?_
    rotate_left
    ·intro w'
     go_simp;with_reducible rfl
    rotate_left
    ·simp only [Act.put,List.setIfInBounds_toArray,List.set_cons_zero,List.set_cons_succ,i64_w,i32_w]
     rfl
    refine pure_ (i:=6) (N:=some 45) (v:=?_) (a':=?_) #[false,true,false,false,false,false,true,false,false,false,false,false,false,false,false,false,false,false,false,false,false,false,false] rfl rfl (any_of HT_.out (by kernel_rfl)) (fun _ _ _ h => h) (Or.inl ⟨by rfl,?_⟩) ?_ ?_
    rotate_left
    ·intro w'
     go_simp;with_reducible rfl
    rotate_left
    ·simp only [Act.put,List.setIfInBounds_toArray,List.set_cons_zero,List.set_cons_succ,i64_w,i32_w]
     rfl
    refine pure_ (i:=9) (N:=some 48) (v:=?_) (a':=?_) #[false,true,false,false,false,false,true,false,false,true,false,false,false,false,false,false,false,false,false,false,false,false,false] rfl rfl (any_of HT_.out (by kernel_rfl)) (fun _ _ _ h => h) (Or.inl ⟨by rfl,?_⟩) ?_ ?_
    rotate_left
    ·intro w'
     go_simp;with_reducible rfl
    rotate_left
    ·simp only [Act.put,List.setIfInBounds_toArray,List.set_cons_zero,List.set_cons_succ,i64_w,i32_w]
     rfl
    refine pure_ (i:=11) (N:=some 50) (v:=?_) (a':=?_) #[false,true,false,false,false,false,true,false,false,true,false,true,false,false,false,false,false,false,false,false,false,false,false] rfl rfl (any_of HT_.out (by kernel_rfl)) (fun _ _ _ h => h) (Or.inl ⟨by rfl,?_⟩) ?_ ?_
    rotate_left
    ·intro w'
     go_simp;with_reducible rfl
    rotate_left
    ·simp only [Act.put,List.setIfInBounds_toArray,List.set_cons_zero,List.set_cons_succ,i64_w,i32_w]
     rfl
    refine take_ (i:=0) (N:=some 39) (v:=?_) (a':=?_) #[true,true,false,false,false,false,true,false,false,true,false,true,false,false,false,false,false,false,false,false,false,false,false] rfl rfl (take_ofW HT_.out HW_.out (by kernel_rfl)) (fun _ _ _ h => h) (Or.inl ⟨by rfl,?_⟩) hHeld ?_ ?_
    rotate_left
    ·rintro w' ⟨s0,s1,s2,s3,s4,s5,s6,s7,s8,s9⟩
     go_simp;with_reducible rfl
    rotate_left
    ·simp only [Act.put,List.setIfInBounds_toArray,List.set_cons_zero,List.set_cons_succ,i64_w,i32_w]
     rfl
    refine take_ (i:=2) (N:=some 41) (v:=?_) (a':=?_) #[true,true,true,false,false,false,true,false,false,true,false,true,false,false,false,false,false,false,false,false,false,false,false] rfl rfl (take_ofW HT_.out HW_.out (by kernel_rfl)) (fun _ _ _ h => h) (Or.inl ⟨by rfl,?_⟩) hHeld ?_ ?_
    rotate_left
    ·rintro w' ⟨s0,s1,s2,s3,s4,s5,s6,s7,s8,s9⟩
     go_simp;with_reducible rfl
    rotate_left
    ·simp only [Act.put,List.setIfInBounds_toArray,List.set_cons_zero,List.set_cons_succ,i64_w,i32_w]
     rfl
    refine take_ (i:=3) (N:=some 42) (v:=?_) (a':=?_) #[true,true,true,true,false,false,true,false,false,true,false,true,false,false,false,false,false,false,false,false,false,false,false] rfl rfl (take_ofW HT_.out HW_.out (by kernel_rfl)) (fun _ _ _ h => h) (Or.inl ⟨by rfl,?_⟩) hHeld ?_ ?_
    rotate_left
    ·rintro w' ⟨s0,s1,s2,s3,s4,s5,s6,s7,s8,s9⟩
     go_simp;with_reducible rfl
    rotate_left
    ·simp only [Act.put,List.setIfInBounds_toArray,List.set_cons_zero,List.set_cons_succ,i64_w,i32_w]
     rfl
    refine take_ (i:=7) (N:=some 46) (v:=?_) (a':=?_) #[true,true,true,true,false,false,true,true,false,true,false,true,false,false,false,false,false,false,false,false,false,false,false] rfl rfl (take_ofW HT_.out HW_.out (by kernel_rfl)) (fun _ _ _ h => h) (Or.inl ⟨by rfl,?_⟩) hHeld ?_ ?_
    rotate_left
    ·rintro w' ⟨s0,s1,s2,s3,s4,s5,s6,s7,s8,s9⟩
     go_simp;with_reducible rfl
    rotate_left
    ·simp only [Act.put,List.setIfInBounds_toArray,List.set_cons_zero,List.set_cons_succ,i64_w,i32_w]
     rfl
    refine take_ (i:=10) (N:=some 49) (v:=?_) (a':=?_) #[true,true,true,true,false,false,true,true,false,true,true,true,false,false,false,false,false,false,false,false,false,false,false] rfl rfl (take_ofW HT_.out HW_.out (by kernel_rfl)) (fun _ _ _ h => h) (Or.inl ⟨by rfl,?_⟩) hHeld ?_ ?_
    rotate_left
    ·rintro w' ⟨s0,s1,s2,s3,s4,s5,s6,s7,s8,s9⟩
     go_simp;with_reducible rfl
    rotate_left
    ·simp only [Act.put,List.setIfInBounds_toArray,List.set_cons_zero,List.set_cons_succ,i64_w,i32_w]
     rfl
    refine take_ (i:=12) (N:=some 51) (v:=?_) (a':=?_) #[true,true,true,true,false,false,true,true,false,true,true,true,true,false,false,false,false,false,false,false,false,false,false] rfl rfl (take_ofW HT_.out HW_.out (by kernel_rfl)) (fun _ _ _ h => h) (Or.inl ⟨by rfl,?_⟩) hHeld ?_ ?_
    rotate_left
    ·rintro w' ⟨s0,s1,s2,s3,s4,s5,s6,s7,s8,s9⟩
     go_simp;with_reducible rfl
    rotate_left
    ·simp only [Act.put,List.setIfInBounds_toArray,List.set_cons_zero,List.set_cons_succ,i64_w,i32_w]
     rfl
    refine pure_ (i:=13) (N:=some 52) (v:=?_) (a':=?_) #[true,true,true,true,false,false,true,true,false,true,true,true,true,true,false,false,false,false,false,false,false,false,false] rfl rfl (any_of HT_.out (by kernel_rfl)) (fun _ _ _ h => h) (Or.inl ⟨by rfl,?_⟩) ?_ ?_
    rotate_left
    ·intro w'
     go_simp;with_reducible rfl
    rotate_left
    ·simp only [Act.put,List.setIfInBounds_toArray,List.set_cons_zero,List.set_cons_succ,i64_w,i32_w]
     rfl
    refine join_ (σ:=Nat) 2 #[true,true,true,true,true,true,true,true,true,true,true,true,true,true,true,true,true,true,true,true,true,false,false] (fun s_ => [(43,.int .i64 t345),(55,.tuple #[.agg #[.int .u64 t346,.int .u64 t347],.bool t348]),(7,.pointer (some ⟨s_,0,none⟩)),(44,.int .i64 (wrap64 (a0_3 * t345))),(47,.int .i64 (wrap64 ((wrap64 (a0_3 * t345)) + a0_4))),(53,.int .i64 (wrap64 ((wrap64 ((wrap64 (a0_3 * t345)) + a0_4)) + (wrap64 (a0_5 * a0_0))))),(54,.int .u64 (IntKind.u64.wrap (wrap64 ((wrap64 ((wrap64 (a0_3 * t345)) + a0_4)) + (wrap64 (a0_5 * a0_0)))))),(38,.tuple #[.agg #[.int .u64 t346,.int .u64 t347],.bool t348]),(56,.agg #[.int .u64 t346,.int .u64 t347]),(57,.bool t348)]) (fun s_ w' => (w'.cell? ⟨gb340,0,none⟩ = some (.int .u64 t337) ∧ w'.cell? ⟨gb340,1,none⟩ = some (.int .u64 t338) ∧ w'.cell? ⟨gb332,0,none⟩ = some (.int .i64 a0_0) ∧ w'.cell? ⟨gb332,1,none⟩ = some (.int .i64 a0_1) ∧ w'.cell? ⟨gb332,2,none⟩ = some (.int .i64 a0_2) ∧ w'.cell? ⟨gb332,3,none⟩ = some (.int .i64 a0_3) ∧ w'.cell? ⟨gb332,4,none⟩ = some (.int .i64 a0_4) ∧ w'.cell? ⟨gb332,5,none⟩ = some (.int .i64 a0_5) ∧ w'.cell? ⟨gb332,6,none⟩ = some (.int .i64 a0_6) ∧ w'.cell? ⟨gb332,7,none⟩ = some (.int .i64 a0_7)) ∧ (w'.heap[gb332]? = some (.cells #[.int .i64 a0_0,.int .i64 a0_1,.int .i64 a0_2,.int .i64 a0_3,.int .i64 a0_4,.int .i64 a0_5,.int .i64 a0_6,.int .i64 a0_7] 23 (0,0))) ∧ (w'.heap[gb339]? = some (.cells #[.int .u64 t335,.int .u64 t336] 94 (0,0))) ∧ (w'.heap[gb340]? = some (.cells #[.int .u64 t337,.int .u64 t338] 94 (0,0))) ∧ (w'.heap[gb344]? = some (.cells #[.int .u64 t341,.int .u64 t342] 94 (0,0))) ∧ (w'.heap[s_]? = some (.cells #[.int .u64 0,.int .u64 0] 94 (0,0))) ∧ (w.heap.size ≤ s_) ∧ (w.heap.size ≤ s_) ∧ (gb332 ≠ s_) ∧ (s_ ≠ gb332) ∧ (gb339 ≠ s_) ∧ (s_ ≠ gb339) ∧ (gb340 ≠ s_) ∧ (s_ ≠ gb340) ∧ (gb344 ≠ s_) ∧ (s_ ≠ gb344) ∧ (Below w.heap.size w w')) ?_ ?_
    rotate_left
    ·intro hCont
     refine two_ (i:=4) (j:=20) (Ni:=some 43) (Nj:=some 7) #[true,true,true,true,true,false,true,true,false,true,true,true,true,true,false,false,false,false,false,false,false,false,false] #[true,true,true,true,false,false,true,true,false,true,true,true,true,true,false,false,false,false,false,false,true,false,false] rfl rfl rfl rfl (two_of HT_.out (by kernel_rfl)) (by decide) (by decide) (fun K hK => ?_) (fun K hK => ?_)
     ·skip
      refine goes_ Tryd.func56 (by kernel_rfl) rfl #[.agg #[.int .i64 a0_0,.int .i64 a0_1,.int .i64 a0_2,.int .i64 a0_3,.int .i64 a0_4,.int .i64 a0_5,.int .i64 a0_6,.int .i64 a0_7]] (by rfl) rfl rfl aA ?_
      with_reducible refine (backfillref11_bound.calls a0_0 a0_1 a0_2 a0_3 a0_4 a0_5 a0_6 a0_7 t345 _ A20.out).mono ?_
      rintro e w46 ⟨rfl,hb⟩
      refine ⟨_,rfl,?_⟩;have n0_:=Aside0.mk (blk_below (g:=gb332) kA hb);have n1_:=Aside0.mk (blk_below (g:=gb339) kA hb);have n2_:=Aside0.mk (blk_below (g:=gb340) kA hb);have n3_:=Aside0.mk (blk_below (g:=gb344) kA hb);have n4_:=Aside0.mk (below_step bA hb);clear BK332 BK339 BK340 BK344 HB;have BK332:=n0_;have BK339:=n1_;have BK340:=n2_;have BK344:=n3_;have HB:=n4_;clear n0_ n1_ n2_ n3_ n4_;(try clear hb)
      refine hK.out _ _ ⟨(blk_cell BK340.out 0).trans rfl,(blk_cell BK340.out 1).trans rfl,(blk_cell BK332.out 0).trans rfl,(blk_cell BK332.out 1).trans rfl,(blk_cell BK332.out 2).trans rfl,(blk_cell BK332.out 3).trans rfl,(blk_cell BK332.out 4).trans rfl,(blk_cell BK332.out 5).trans rfl,(blk_cell BK332.out 6).trans rfl,(blk_cell BK332.out 7).trans rfl⟩ (fun hHeld => ?_)
      clear hK K
      refine norm_ (a':=?_) ?_ ?_
      rotate_left
      ·show Act.put _ (some 43) _ = _
       simp only [Act.put,List.setIfInBounds_toArray,List.set_cons_zero,List.set_cons_succ,i64_w,i32_w]
       rfl
      refine pure_ (i:=5) (N:=some 44) (v:=?_) (a':=?_) #[true,true,true,true,true,true,true,true,false,true,true,true,true,true,false,false,false,false,false,false,false,false,false] rfl rfl (any_of HT_.out (by kernel_rfl)) (fun _ _ _ h => h) (Or.inl ⟨by rfl,?_⟩) ?_ ?_
      rotate_left
      ·intro w'
       go_simp;with_reducible rfl
      rotate_left
      ·simp only [Act.put,List.setIfInBounds_toArray,List.set_cons_zero,List.set_cons_succ,i64_w,i32_w]
       rfl
      refine pure_ (i:=8) (N:=some 47) (v:=?_) (a':=?_) #[true,true,true,true,true,true,true,true,true,true,true,true,true,true,false,false,false,false,false,false,false,false,false] rfl rfl (any_of HT_.out (by kernel_rfl)) (fun _ _ _ h => h) (Or.inl ⟨by rfl,?_⟩) ?_ ?_
      rotate_left
      ·intro w'
       go_simp;with_reducible rfl
      rotate_left
      ·simp only [Act.put,List.setIfInBounds_toArray,List.set_cons_zero,List.set_cons_succ,i64_w,i32_w]
       rfl
      refine pure_ (i:=14) (N:=some 53) (v:=?_) (a':=?_) #[true,true,true,true,true,true,true,true,true,true,true,true,true,true,true,false,false,false,false,false,false,false,false] rfl rfl (any_of HT_.out (by kernel_rfl)) (fun _ _ _ h => h) (Or.inl ⟨by rfl,?_⟩) ?_ ?_
      rotate_left
      ·intro w'
       go_simp;with_reducible rfl
      rotate_left
      ·simp only [Act.put,List.setIfInBounds_toArray,List.set_cons_zero,List.set_cons_succ,i64_w,i32_w]
       rfl
      refine pure_ (i:=15) (N:=some 54) (v:=?_) (a':=?_) #[true,true,true,true,true,true,true,true,true,true,true,true,true,true,true,true,false,false,false,false,false,false,false] rfl rfl (any_of HT_.out (by kernel_rfl)) (fun _ _ _ h => h) (Or.inl ⟨by rfl,?_⟩) ?_ ?_
      rotate_left
      ·intro w'
       go_simp;with_reducible rfl
      rotate_left
      ·simp only [Act.put,List.setIfInBounds_toArray,List.set_cons_zero,List.set_cons_succ,i64_w,i32_w]
       rfl
      refine two_ (i:=16) (j:=20) (Ni:=some 55) (Nj:=some 7) #[true,true,true,true,true,true,true,true,true,true,true,true,true,true,true,true,true,false,false,false,false,false,false] #[true,true,true,true,true,true,true,true,true,true,true,true,true,true,true,true,false,false,false,false,true,false,false] rfl rfl rfl rfl (two_of HT_.out (by kernel_rfl)) (by decide) (by decide) (fun K hK => ?_) (fun K hK => ?_)
      ·skip
       refine goes_ Tryd.func55 (by kernel_rfl) rfl #[.agg #[.int .u64 t337,.int .u64 t338],.int .u64 (IntKind.u64.wrap (wrap64 ((wrap64 ((wrap64 (a0_3 * t345)) + a0_4)) + (wrap64 (a0_5 * a0_0)))))] (by rfl) rfl rfl aA ?_
       with_reducible refine (backfillref01_Times.calls t337 t338 (IntKind.u64.wrap (wrap64 ((wrap64 ((wrap64 (a0_3 * t345)) + a0_4)) + (wrap64 (a0_5 * a0_0))))) t346 t347 t348 _ A21.out).mono ?_
       rintro e w47 ⟨rfl,hb⟩
       refine ⟨_,rfl,?_⟩;have n0_:=Aside0.mk (blk_below (g:=gb332) kA hb);have n1_:=Aside0.mk (blk_below (g:=gb339) kA hb);have n2_:=Aside0.mk (blk_below (g:=gb340) kA hb);have n3_:=Aside0.mk (blk_below (g:=gb344) kA hb);have n4_:=Aside0.mk (below_step bA hb);clear BK332 BK339 BK340 BK344 HB;have BK332:=n0_;have BK339:=n1_;have BK340:=n2_;have BK344:=n3_;have HB:=n4_;clear n0_ n1_ n2_ n3_ n4_;(try clear hb)
       refine hK.out _ _ ⟨(blk_cell BK340.out 0).trans rfl,(blk_cell BK340.out 1).trans rfl,(blk_cell BK332.out 0).trans rfl,(blk_cell BK332.out 1).trans rfl,(blk_cell BK332.out 2).trans rfl,(blk_cell BK332.out 3).trans rfl,(blk_cell BK332.out 4).trans rfl,(blk_cell BK332.out 5).trans rfl,(blk_cell BK332.out 6).trans rfl,(blk_cell BK332.out 7).trans rfl⟩ (fun hHeld => ?_)
       clear hK K
       refine norm_ (a':=?_) ?_ ?_
       rotate_left
       ·show Act.put _ (some 55) _ = _
        simp only [Act.put,List.setIfInBounds_toArray,List.set_cons_zero,List.set_cons_succ,i64_w,i32_w]
        rfl
       refine pure_ (i:=17) (N:=some 38) (v:=?_) (a':=?_) #[true,true,true,true,true,true,true,true,true,true,true,true,true,true,true,true,true,true,false,false,false,false,false] rfl rfl (any_of HT_.out (by kernel_rfl)) (fun _ _ _ h => h) (Or.inl ⟨by rfl,?_⟩) ?_ ?_
       rotate_left
       ·intro w'
        go_simp;with_reducible rfl
       rotate_left
       ·simp only [Act.put,List.setIfInBounds_toArray,List.set_cons_zero,List.set_cons_succ,i64_w,i32_w]
        rfl
       refine pure_ (i:=18) (N:=some 56) (v:=?_) (a':=?_) #[true,true,true,true,true,true,true,true,true,true,true,true,true,true,true,true,true,true,true,false,false,false,false] rfl rfl (any_of HT_.out (by kernel_rfl)) (fun _ _ _ h => h) (Or.inl ⟨by rfl,?_⟩) ?_ ?_
       rotate_left
       ·intro w'
        go_simp;with_reducible rfl
       rotate_left
       ·simp only [Act.put,List.setIfInBounds_toArray,List.set_cons_zero,List.set_cons_succ,i64_w,i32_w]
        rfl
       refine pure_ (i:=19) (N:=some 57) (v:=?_) (a':=?_) #[true,true,true,true,true,true,true,true,true,true,true,true,true,true,true,true,true,true,true,true,false,false,false] rfl rfl (any_of HT_.out (by kernel_rfl)) (fun _ _ _ h => h) (Or.inl ⟨by rfl,?_⟩) ?_ ?_
       rotate_left
       ·intro w'
        go_simp;with_reducible rfl
       rotate_left
       ·simp only [Act.put,List.setIfInBounds_toArray,List.set_cons_zero,List.set_cons_succ,i64_w,i32_w]
        rfl
       refine one_ (i:=20) (N:=some 7) #[true,true,true,true,true,true,true,true,true,true,true,true,true,true,true,true,true,true,true,true,true,false,false] rfl rfl (one_of HT_.out (by kernel_rfl)) (by decide) (fun K hK => ?_)
       refine box_step ?hg (N:=7) ?hd (cs:=#[.int .u64 0,.int .u64 0]) (t:=94) ?hr ?_;(case hd => rfl);(case hg => rfl);(case hr => first | (go_simp;done) | (go_simp;rfl))
       intro gb349 hg w48 hbox hb
       have n0_:=Aside0.mk (blk_below (g:=gb332) kA hb);have n1_:=Aside0.mk (blk_below (g:=gb339) kA hb);have n2_:=Aside0.mk (blk_below (g:=gb340) kA hb);have n3_:=Aside0.mk (blk_below (g:=gb344) kA hb);have n4_:=Aside0.mk (below_step bA hb);have n5_:=Aside0.mk (hbox);have n6_:=Aside0.mk (gwA hg bA);have n7_:=Aside0.mk (gwA hg bA);have n8_:=Aside0.mk (neA (g:=gb332) hg kA);have n9_:=Aside0.mk (neB (g:=gb332) hg kA);have n10_:=Aside0.mk (neA (g:=gb339) hg kA);have n11_:=Aside0.mk (neB (g:=gb339) hg kA);have n12_:=Aside0.mk (neA (g:=gb340) hg kA);have n13_:=Aside0.mk (neB (g:=gb340) hg kA);have n14_:=Aside0.mk (neA (g:=gb344) hg kA);have n15_:=Aside0.mk (neB (g:=gb344) hg kA);clear BK332 BK339 BK340 BK344 HB;have BK332:=n0_;have BK339:=n1_;have BK340:=n2_;have BK344:=n3_;have HB:=n4_;have BK349:=n5_;have GW349:=n6_;have GE349:=n7_;have NB332_349:=n8_;have NB349_332:=n9_;have NB339_349:=n10_;have NB349_339:=n11_;have NB340_349:=n12_;have NB349_340:=n13_;have NB344_349:=n14_;have NB349_344:=n15_;clear n0_ n1_ n2_ n3_ n4_ n5_ n6_ n7_ n8_ n9_ n10_ n11_ n12_ n13_ n14_ n15_ hb hbox hg
       refine hK.out _ _ ⟨(blk_cell BK340.out 0).trans rfl,(blk_cell BK340.out 1).trans rfl,(blk_cell BK332.out 0).trans rfl,(blk_cell BK332.out 1).trans rfl,(blk_cell BK332.out 2).trans rfl,(blk_cell BK332.out 3).trans rfl,(blk_cell BK332.out 4).trans rfl,(blk_cell BK332.out 5).trans rfl,(blk_cell BK332.out 6).trans rfl,(blk_cell BK332.out 7).trans rfl⟩ (fun hHeld => ?_)
       clear hK K
       refine norm_ (a':=?_) ?_ ?_
       rotate_left
       ·show Act.put _ (some 7) _ = _
        simp only [Act.put,List.setIfInBounds_toArray,List.set_cons_zero,List.set_cons_succ,i64_w,i32_w]
        rfl
       exact norm_ (by simp only [putAll,Act.put,List.setIfInBounds_toArray,List.set_cons_zero,List.set_cons_succ]) (hCont (gb349) _ ⟨hHeld,kA,kA,kA,kA,kA,GW349.out,GE349.out,NB332_349.out,NB349_332.out,NB339_349.out,NB349_339.out,NB340_349.out,NB349_340.out,NB344_349.out,NB349_344.out,bA⟩)
      ·skip
       refine box_step ?hg (N:=7) ?hd (cs:=#[.int .u64 0,.int .u64 0]) (t:=94) ?hr ?_;(case hd => rfl);(case hg => rfl);(case hr => first | (go_simp;done) | (go_simp;rfl))
       intro gb349 hg w47 hbox hb
       have n0_:=Aside0.mk (blk_below (g:=gb332) kA hb);have n1_:=Aside0.mk (blk_below (g:=gb339) kA hb);have n2_:=Aside0.mk (blk_below (g:=gb340) kA hb);have n3_:=Aside0.mk (blk_below (g:=gb344) kA hb);have n4_:=Aside0.mk (below_step bA hb);have n5_:=Aside0.mk (hbox);have n6_:=Aside0.mk (gwA hg bA);have n7_:=Aside0.mk (gwA hg bA);have n8_:=Aside0.mk (neA (g:=gb332) hg kA);have n9_:=Aside0.mk (neB (g:=gb332) hg kA);have n10_:=Aside0.mk (neA (g:=gb339) hg kA);have n11_:=Aside0.mk (neB (g:=gb339) hg kA);have n12_:=Aside0.mk (neA (g:=gb340) hg kA);have n13_:=Aside0.mk (neB (g:=gb340) hg kA);have n14_:=Aside0.mk (neA (g:=gb344) hg kA);have n15_:=Aside0.mk (neB (g:=gb344) hg kA);clear BK332 BK339 BK340 BK344 HB;have BK332:=n0_;have BK339:=n1_;have BK340:=n2_;have BK344:=n3_;have HB:=n4_;have BK349:=n5_;have GW349:=n6_;have GE349:=n7_;have NB332_349:=n8_;have NB349_332:=n9_;have NB339_349:=n10_;have NB349_339:=n11_;have NB340_349:=n12_;have NB349_340:=n13_;have NB344_349:=n14_;have NB349_344:=n15_;clear n0_ n1_ n2_ n3_ n4_ n5_ n6_ n7_ n8_ n9_ n10_ n11_ n12_ n13_ n14_ n15_ hb hbox hg
       refine hK.out _ _ ⟨(blk_cell BK340.out 0).trans rfl,(blk_cell BK340.out 1).trans rfl,(blk_cell BK332.out 0).trans rfl,(blk_cell BK332.out 1).trans rfl,(blk_cell BK332.out 2).trans rfl,(blk_cell BK332.out 3).trans rfl,(blk_cell BK332.out 4).trans rfl,(blk_cell BK332.out 5).trans rfl,(blk_cell BK332.out 6).trans rfl,(blk_cell BK332.out 7).trans rfl⟩ (fun hHeld => ?_)
       clear hK K
       refine norm_ (a':=?_) ?_ ?_
       rotate_left
       ·show Act.put _ (some 7) _ = _
        simp only [Act.put,List.setIfInBounds_toArray,List.set_cons_zero,List.set_cons_succ,i64_w,i32_w]
        rfl
       refine one_ (i:=16) (N:=some 55) #[true,true,true,true,true,true,true,true,true,true,true,true,true,true,true,true,true,false,false,false,true,false,false] rfl rfl (one_of HT_.out (by kernel_rfl)) (by decide) (fun K hK => ?_)
       refine goes_ Tryd.func55 (by kernel_rfl) rfl #[.agg #[.int .u64 t337,.int .u64 t338],.int .u64 (IntKind.u64.wrap (wrap64 ((wrap64 ((wrap64 (a0_3 * t345)) + a0_4)) + (wrap64 (a0_5 * a0_0)))))] (by rfl) rfl rfl aA ?_
       with_reducible refine (backfillref01_Times.calls t337 t338 (IntKind.u64.wrap (wrap64 ((wrap64 ((wrap64 (a0_3 * t345)) + a0_4)) + (wrap64 (a0_5 * a0_0))))) t346 t347 t348 _ A21.out).mono ?_
       rintro e w48 ⟨rfl,hb⟩
       refine ⟨_,rfl,?_⟩;have n0_:=Aside0.mk (blk_below (g:=gb332) kA hb);have n1_:=Aside0.mk (blk_below (g:=gb339) kA hb);have n2_:=Aside0.mk (blk_below (g:=gb340) kA hb);have n3_:=Aside0.mk (blk_below (g:=gb344) kA hb);have n4_:=Aside0.mk (blk_below (g:=gb349) kA hb);have n5_:=Aside0.mk (below_step bA hb);clear BK332 BK339 BK340 BK344 BK349 HB;have BK332:=n0_;have BK339:=n1_;have BK340:=n2_;have BK344:=n3_;have BK349:=n4_;have HB:=n5_;clear n0_ n1_ n2_ n3_ n4_ n5_;(try clear hb)
       refine hK.out _ _ ⟨(blk_cell BK340.out 0).trans rfl,(blk_cell BK340.out 1).trans rfl,(blk_cell BK332.out 0).trans rfl,(blk_cell BK332.out 1).trans rfl,(blk_cell BK332.out 2).trans rfl,(blk_cell BK332.out 3).trans rfl,(blk_cell BK332.out 4).trans rfl,(blk_cell BK332.out 5).trans rfl,(blk_cell BK332.out 6).trans rfl,(blk_cell BK332.out 7).trans rfl⟩ (fun hHeld => ?_)
       clear hK K
       refine norm_ (a':=?_) ?_ ?_
       rotate_left
       ·show Act.put _ (some 55) _ = _
        simp only [Act.put,List.setIfInBounds_toArray,List.set_cons_zero,List.set_cons_succ,i64_w,i32_w]
        rfl
       refine pure_ (i:=17) (N:=some 38) (v:=?_) (a':=?_) #[true,true,true,true,true,true,true,true,true,true,true,true,true,true,true,true,true,true,false,false,true,false,false] rfl rfl (any_of HT_.out (by kernel_rfl)) (fun _ _ _ h => h) (Or.inl ⟨by rfl,?_⟩) ?_ ?_
       rotate_left
       ·intro w'
        go_simp;with_reducible rfl
       rotate_left
       ·simp only [Act.put,List.setIfInBounds_toArray,List.set_cons_zero,List.set_cons_succ,i64_w,i32_w]
        rfl
       refine pure_ (i:=18) (N:=some 56) (v:=?_) (a':=?_) #[true,true,true,true,true,true,true,true,true,true,true,true,true,true,true,true,true,true,true,false,true,false,false] rfl rfl (any_of HT_.out (by kernel_rfl)) (fun _ _ _ h => h) (Or.inl ⟨by rfl,?_⟩) ?_ ?_
       rotate_left
       ·intro w'
        go_simp;with_reducible rfl
       rotate_left
       ·simp only [Act.put,List.setIfInBounds_toArray,List.set_cons_zero,List.set_cons_succ,i64_w,i32_w]
        rfl
       refine pure_ (i:=19) (N:=some 57) (v:=?_) (a':=?_) #[true,true,true,true,true,true,true,true,true,true,true,true,true,true,true,true,true,true,true,true,true,false,false] rfl rfl (any_of HT_.out (by kernel_rfl)) (fun _ _ _ h => h) (Or.inl ⟨by rfl,?_⟩) ?_ ?_
       rotate_left
       ·intro w'
        go_simp;with_reducible rfl
       rotate_left
       ·simp only [Act.put,List.setIfInBounds_toArray,List.set_cons_zero,List.set_cons_succ,i64_w,i32_w]
        rfl
       exact norm_ (by simp only [putAll,Act.put,List.setIfInBounds_toArray,List.set_cons_zero,List.set_cons_succ]) (hCont (gb349) _ ⟨hHeld,kA,kA,kA,kA,kA,GW349.out,GE349.out,NB332_349.out,NB349_332.out,NB339_349.out,NB349_339.out,NB340_349.out,NB349_340.out,NB344_349.out,NB349_344.out,bA⟩)
     ·skip
      refine box_step ?hg (N:=7) ?hd (cs:=#[.int .u64 0,.int .u64 0]) (t:=94) ?hr ?_;(case hd => rfl);(case hg => rfl);(case hr => first | (go_simp;done) | (go_simp;rfl))
      intro gb349 hg w46 hbox hb
      have n0_:=Aside0.mk (blk_below (g:=gb332) kA hb);have n1_:=Aside0.mk (blk_below (g:=gb339) kA hb);have n2_:=Aside0.mk (blk_below (g:=gb340) kA hb);have n3_:=Aside0.mk (blk_below (g:=gb344) kA hb);have n4_:=Aside0.mk (below_step bA hb);have n5_:=Aside0.mk (hbox);have n6_:=Aside0.mk (gwA hg bA);have n7_:=Aside0.mk (gwA hg bA);have n8_:=Aside0.mk (neA (g:=gb332) hg kA);have n9_:=Aside0.mk (neB (g:=gb332) hg kA);have n10_:=Aside0.mk (neA (g:=gb339) hg kA);have n11_:=Aside0.mk (neB (g:=gb339) hg kA);have n12_:=Aside0.mk (neA (g:=gb340) hg kA);have n13_:=Aside0.mk (neB (g:=gb340) hg kA);have n14_:=Aside0.mk (neA (g:=gb344) hg kA);have n15_:=Aside0.mk (neB (g:=gb344) hg kA);clear BK332 BK339 BK340 BK344 HB;have BK332:=n0_;have BK339:=n1_;have BK340:=n2_;have BK344:=n3_;have HB:=n4_;have BK349:=n5_;have GW349:=n6_;have GE349:=n7_;have NB332_349:=n8_;have NB349_332:=n9_;have NB339_349:=n10_;have NB349_339:=n11_;have NB340_349:=n12_;have NB349_340:=n13_;have NB344_349:=n14_;have NB349_344:=n15_;clear n0_ n1_ n2_ n3_ n4_ n5_ n6_ n7_ n8_ n9_ n10_ n11_ n12_ n13_ n14_ n15_ hb hbox hg
      refine hK.out _ _ ⟨(blk_cell BK340.out 0).trans rfl,(blk_cell BK340.out 1).trans rfl,(blk_cell BK332.out 0).trans rfl,(blk_cell BK332.out 1).trans rfl,(blk_cell BK332.out 2).trans rfl,(blk_cell BK332.out 3).trans rfl,(blk_cell BK332.out 4).trans rfl,(blk_cell BK332.out 5).trans rfl,(blk_cell BK332.out 6).trans rfl,(blk_cell BK332.out 7).trans rfl⟩ (fun hHeld => ?_)
      clear hK K
      refine norm_ (a':=?_) ?_ ?_
      rotate_left
      ·show Act.put _ (some 7) _ = _
       simp only [Act.put,List.setIfInBounds_toArray,List.set_cons_zero,List.set_cons_succ,i64_w,i32_w]
       rfl
      refine one_ (i:=4) (N:=some 43) #[true,true,true,true,true,false,true,true,false,true,true,true,true,true,false,false,false,false,false,false,true,false,false] rfl rfl (one_of HT_.out (by kernel_rfl)) (by decide) (fun K hK => ?_)
      refine goes_ Tryd.func56 (by kernel_rfl) rfl #[.agg #[.int .i64 a0_0,.int .i64 a0_1,.int .i64 a0_2,.int .i64 a0_3,.int .i64 a0_4,.int .i64 a0_5,.int .i64 a0_6,.int .i64 a0_7]] (by rfl) rfl rfl aA ?_
      with_reducible refine (backfillref11_bound.calls a0_0 a0_1 a0_2 a0_3 a0_4 a0_5 a0_6 a0_7 t345 _ A20.out).mono ?_
      rintro e w47 ⟨rfl,hb⟩
      refine ⟨_,rfl,?_⟩;have n0_:=Aside0.mk (blk_below (g:=gb332) kA hb);have n1_:=Aside0.mk (blk_below (g:=gb339) kA hb);have n2_:=Aside0.mk (blk_below (g:=gb340) kA hb);have n3_:=Aside0.mk (blk_below (g:=gb344) kA hb);have n4_:=Aside0.mk (blk_below (g:=gb349) kA hb);have n5_:=Aside0.mk (below_step bA hb);clear BK332 BK339 BK340 BK344 BK349 HB;have BK332:=n0_;have BK339:=n1_;have BK340:=n2_;have BK344:=n3_;have BK349:=n4_;have HB:=n5_;clear n0_ n1_ n2_ n3_ n4_ n5_;(try clear hb)
      refine hK.out _ _ ⟨(blk_cell BK340.out 0).trans rfl,(blk_cell BK340.out 1).trans rfl,(blk_cell BK332.out 0).trans rfl,(blk_cell BK332.out 1).trans rfl,(blk_cell BK332.out 2).trans rfl,(blk_cell BK332.out 3).trans rfl,(blk_cell BK332.out 4).trans rfl,(blk_cell BK332.out 5).trans rfl,(blk_cell BK332.out 6).trans rfl,(blk_cell BK332.out 7).trans rfl⟩ (fun hHeld => ?_)
      clear hK K
      refine norm_ (a':=?_) ?_ ?_
      rotate_left
      ·show Act.put _ (some 43) _ = _
       simp only [Act.put,List.setIfInBounds_toArray,List.set_cons_zero,List.set_cons_succ,i64_w,i32_w]
       rfl
      refine pure_ (i:=5) (N:=some 44) (v:=?_) (a':=?_) #[true,true,true,true,true,true,true,true,false,true,true,true,true,true,false,false,false,false,false,false,true,false,false] rfl rfl (any_of HT_.out (by kernel_rfl)) (fun _ _ _ h => h) (Or.inl ⟨by rfl,?_⟩) ?_ ?_
      rotate_left
      ·intro w'
       go_simp;with_reducible rfl
      rotate_left
      ·simp only [Act.put,List.setIfInBounds_toArray,List.set_cons_zero,List.set_cons_succ,i64_w,i32_w]
       rfl
      refine pure_ (i:=8) (N:=some 47) (v:=?_) (a':=?_) #[true,true,true,true,true,true,true,true,true,true,true,true,true,true,false,false,false,false,false,false,true,false,false] rfl rfl (any_of HT_.out (by kernel_rfl)) (fun _ _ _ h => h) (Or.inl ⟨by rfl,?_⟩) ?_ ?_
      rotate_left
      ·intro w'
       go_simp;with_reducible rfl
      rotate_left
      ·simp only [Act.put,List.setIfInBounds_toArray,List.set_cons_zero,List.set_cons_succ,i64_w,i32_w]
       rfl
      refine pure_ (i:=14) (N:=some 53) (v:=?_) (a':=?_) #[true,true,true,true,true,true,true,true,true,true,true,true,true,true,true,false,false,false,false,false,true,false,false] rfl rfl (any_of HT_.out (by kernel_rfl)) (fun _ _ _ h => h) (Or.inl ⟨by rfl,?_⟩) ?_ ?_
      rotate_left
      ·intro w'
       go_simp;with_reducible rfl
      rotate_left
      ·simp only [Act.put,List.setIfInBounds_toArray,List.set_cons_zero,List.set_cons_succ,i64_w,i32_w]
       rfl
      refine pure_ (i:=15) (N:=some 54) (v:=?_) (a':=?_) #[true,true,true,true,true,true,true,true,true,true,true,true,true,true,true,true,false,false,false,false,true,false,false] rfl rfl (any_of HT_.out (by kernel_rfl)) (fun _ _ _ h => h) (Or.inl ⟨by rfl,?_⟩) ?_ ?_
      rotate_left
      ·intro w'
       go_simp;with_reducible rfl
      rotate_left
      ·simp only [Act.put,List.setIfInBounds_toArray,List.set_cons_zero,List.set_cons_succ,i64_w,i32_w]
       rfl
      refine one_ (i:=16) (N:=some 55) #[true,true,true,true,true,true,true,true,true,true,true,true,true,true,true,true,true,false,false,false,true,false,false] rfl rfl (one_of HT_.out (by kernel_rfl)) (by decide) (fun K hK => ?_)
      refine goes_ Tryd.func55 (by kernel_rfl) rfl #[.agg #[.int .u64 t337,.int .u64 t338],.int .u64 (IntKind.u64.wrap (wrap64 ((wrap64 ((wrap64 (a0_3 * t345)) + a0_4)) + (wrap64 (a0_5 * a0_0)))))] (by rfl) rfl rfl aA ?_
      with_reducible refine (backfillref01_Times.calls t337 t338 (IntKind.u64.wrap (wrap64 ((wrap64 ((wrap64 (a0_3 * t345)) + a0_4)) + (wrap64 (a0_5 * a0_0))))) t346 t347 t348 _ A21.out).mono ?_
      rintro e w48 ⟨rfl,hb⟩
      refine ⟨_,rfl,?_⟩;have n0_:=Aside0.mk (blk_below (g:=gb332) kA hb);have n1_:=Aside0.mk (blk_below (g:=gb339) kA hb);have n2_:=Aside0.mk (blk_below (g:=gb340) kA hb);have n3_:=Aside0.mk (blk_below (g:=gb344) kA hb);have n4_:=Aside0.mk (blk_below (g:=gb349) kA hb);have n5_:=Aside0.mk (below_step bA hb);clear BK332 BK339 BK340 BK344 BK349 HB;have BK332:=n0_;have BK339:=n1_;have BK340:=n2_;have BK344:=n3_;have BK349:=n4_;have HB:=n5_;clear n0_ n1_ n2_ n3_ n4_ n5_;(try clear hb)
      refine hK.out _ _ ⟨(blk_cell BK340.out 0).trans rfl,(blk_cell BK340.out 1).trans rfl,(blk_cell BK332.out 0).trans rfl,(blk_cell BK332.out 1).trans rfl,(blk_cell BK332.out 2).trans rfl,(blk_cell BK332.out 3).trans rfl,(blk_cell BK332.out 4).trans rfl,(blk_cell BK332.out 5).trans rfl,(blk_cell BK332.out 6).trans rfl,(blk_cell BK332.out 7).trans rfl⟩ (fun hHeld => ?_)
      clear hK K
      refine norm_ (a':=?_) ?_ ?_
      rotate_left
      ·show Act.put _ (some 55) _ = _
       simp only [Act.put,List.setIfInBounds_toArray,List.set_cons_zero,List.set_cons_succ,i64_w,i32_w]
       rfl
      refine pure_ (i:=17) (N:=some 38) (v:=?_) (a':=?_) #[true,true,true,true,true,true,true,true,true,true,true,true,true,true,true,true,true,true,false,false,true,false,false] rfl rfl (any_of HT_.out (by kernel_rfl)) (fun _ _ _ h => h) (Or.inl ⟨by rfl,?_⟩) ?_ ?_
      rotate_left
      ·intro w'
       go_simp;with_reducible rfl
      rotate_left
      ·simp only [Act.put,List.setIfInBounds_toArray,List.set_cons_zero,List.set_cons_succ,i64_w,i32_w]
       rfl
      refine pure_ (i:=18) (N:=some 56) (v:=?_) (a':=?_) #[true,true,true,true,true,true,true,true,true,true,true,true,true,true,true,true,true,true,true,false,true,false,false] rfl rfl (any_of HT_.out (by kernel_rfl)) (fun _ _ _ h => h) (Or.inl ⟨by rfl,?_⟩) ?_ ?_
      rotate_left
      ·intro w'
       go_simp;with_reducible rfl
      rotate_left
      ·simp only [Act.put,List.setIfInBounds_toArray,List.set_cons_zero,List.set_cons_succ,i64_w,i32_w]
       rfl
      refine pure_ (i:=19) (N:=some 57) (v:=?_) (a':=?_) #[true,true,true,true,true,true,true,true,true,true,true,true,true,true,true,true,true,true,true,true,true,false,false] rfl rfl (any_of HT_.out (by kernel_rfl)) (fun _ _ _ h => h) (Or.inl ⟨by rfl,?_⟩) ?_ ?_
      rotate_left
      ·intro w'
       go_simp;with_reducible rfl
      rotate_left
      ·simp only [Act.put,List.setIfInBounds_toArray,List.set_cons_zero,List.set_cons_succ,i64_w,i32_w]
       rfl
      exact norm_ (by simp only [putAll,Act.put,List.setIfInBounds_toArray,List.set_cons_zero,List.set_cons_succ]) (hCont (gb349) _ ⟨hHeld,kA,kA,kA,kA,kA,GW349.out,GE349.out,NB332_349.out,NB349_332.out,NB339_349.out,NB349_339.out,NB340_349.out,NB349_340.out,NB344_349.out,NB349_344.out,bA⟩)
    rintro gb349 w49 ⟨hS_,h0_,h1_,h2_,h3_,h4_,h5_,h6_,h7_,h8_,h9_,h10_,h11_,h12_,h13_,h14_,h15_⟩
    have n0_ : Aside0 (w49.heap[gb332]? = some (.cells #[.int .i64 a0_0,.int .i64 a0_1,.int .i64 a0_2,.int .i64 a0_3,.int .i64 a0_4,.int .i64 a0_5,.int .i64 a0_6,.int .i64 a0_7] 23 (0,0))):=⟨h0_⟩
    have n1_ : Aside0 (w49.heap[gb339]? = some (.cells #[.int .u64 t335,.int .u64 t336] 94 (0,0))):=⟨h1_⟩
    have n2_ : Aside0 (w49.heap[gb340]? = some (.cells #[.int .u64 t337,.int .u64 t338] 94 (0,0))):=⟨h2_⟩
    have n3_ : Aside0 (w49.heap[gb344]? = some (.cells #[.int .u64 t341,.int .u64 t342] 94 (0,0))):=⟨h3_⟩
    have n4_ : Aside0 (w49.heap[gb349]? = some (.cells #[.int .u64 0,.int .u64 0] 94 (0,0))):=⟨h4_⟩
    have n5_ : Aside0 (w.heap.size ≤ gb349):=⟨h5_⟩
    have n6_ : Aside0 (w.heap.size ≤ gb349):=⟨h6_⟩
    have n7_ : Aside0 (gb332 ≠ gb349):=⟨h7_⟩
    have n8_ : Aside0 (gb349 ≠ gb332):=⟨h8_⟩
    have n9_ : Aside0 (gb339 ≠ gb349):=⟨h9_⟩
    have n10_ : Aside0 (gb349 ≠ gb339):=⟨h10_⟩
    have n11_ : Aside0 (gb340 ≠ gb349):=⟨h11_⟩
    have n12_ : Aside0 (gb349 ≠ gb340):=⟨h12_⟩
    have n13_ : Aside0 (gb344 ≠ gb349):=⟨h13_⟩
    have n14_ : Aside0 (gb349 ≠ gb344):=⟨h14_⟩
    have n15_ : Aside0 (Below w.heap.size w w49):=⟨h15_⟩
    clear BK332 BK339 BK340 BK344 HB h0_ h1_ h2_ h3_ h4_ h5_ h6_ h7_ h8_ h9_ h10_ h11_ h12_ h13_ h14_ h15_;have BK332:=n0_;have BK339:=n1_;have BK340:=n2_;have BK344:=n3_;have BK349:=n4_;have GW349:=n5_;have GE349:=n6_;have NB332_349:=n7_;have NB349_332:=n8_;have NB339_349:=n9_;have NB349_339:=n10_;have NB340_349:=n11_;have NB349_340:=n12_;have NB344_349:=n13_;have NB349_344:=n14_;have HB:=n15_;clear n0_ n1_ n2_ n3_ n4_ n5_ n6_ n7_ n8_ n9_ n10_ n11_ n12_ n13_ n14_ n15_
    have hHeld : w49.cell? ⟨gb340,0,none⟩ = some (.int .u64 t337) ∧ w49.cell? ⟨gb340,1,none⟩ = some (.int .u64 t338) ∧ w49.cell? ⟨gb332,0,none⟩ = some (.int .i64 a0_0) ∧ w49.cell? ⟨gb332,1,none⟩ = some (.int .i64 a0_1) ∧ w49.cell? ⟨gb332,2,none⟩ = some (.int .i64 a0_2) ∧ w49.cell? ⟨gb332,3,none⟩ = some (.int .i64 a0_3) ∧ w49.cell? ⟨gb332,4,none⟩ = some (.int .i64 a0_4) ∧ w49.cell? ⟨gb332,5,none⟩ = some (.int .i64 a0_5) ∧ w49.cell? ⟨gb332,6,none⟩ = some (.int .i64 a0_6) ∧ w49.cell? ⟨gb332,7,none⟩ = some (.int .i64 a0_7):=hS_
    refine norm_ (a':=?_) ?_ ?_
    rotate_left
    ·simp only [putAll,Act.put,List.setIfInBounds_toArray,List.set_cons_zero,List.set_cons_succ]
     rfl
    refine one_ (i:=21) (N:=none) #[true,true,true,true,true,true,true,true,true,true,true,true,true,true,true,true,true,true,true,true,true,true,false] rfl rfl (one_of HT_.out (by kernel_rfl)) (by decide) (fun K hK => ?_)
    have hs50 : w49.cell? ⟨gb349,0,none⟩ = some (.int .u64 0):=(blk_cell BK349.out 0).trans rfl
    have hfs50:=blk_frozen BK349.out 0
    have hns50_0:=NB332_349.out
    have hns50_1:=NB339_349.out
    have hns50_2:=NB340_349.out
    have hns50_3:=NB344_349.out
    have hms50_0:=NB349_332.out
    have hms50_1:=NB349_339.out
    have hms50_2:=NB349_340.out
    have hms50_3:=NB349_344.out
    have hs51 : w49.cell? ⟨gb349,1,none⟩ = some (.int .u64 0):=(blk_cell BK349.out 1).trans rfl
    have hfs51:=blk_frozen BK349.out 1
    have hns51_0:=NB332_349.out
    have hns51_1:=NB339_349.out
    have hns51_2:=NB340_349.out
    have hns51_3:=NB344_349.out
    have hms51_0:=NB349_332.out
    have hms51_1:=NB349_339.out
    have hms51_2:=NB349_340.out
    have hms51_3:=NB349_344.out
    refine skip_ (w1:=?_) (by rfl) rfl ?_ ?_
    rotate_left
    ·go_simp
     rfl
    refine hK.out _ _ ⟨((cell_far (p:=⟨gb349,_,none⟩) NB340_349.out _).trans (((cell_far (p:=⟨gb349,_,none⟩) NB340_349.out _).trans (hHeld.1)))),((cell_far (p:=⟨gb349,_,none⟩) NB340_349.out _).trans (((cell_far (p:=⟨gb349,_,none⟩) NB340_349.out _).trans (hHeld.2.1)))),((cell_far (p:=⟨gb349,_,none⟩) NB332_349.out _).trans (((cell_far (p:=⟨gb349,_,none⟩) NB332_349.out _).trans (hHeld.2.2.1)))),((cell_far (p:=⟨gb349,_,none⟩) NB332_349.out _).trans (((cell_far (p:=⟨gb349,_,none⟩) NB332_349.out _).trans (hHeld.2.2.2.1)))),((cell_far (p:=⟨gb349,_,none⟩) NB332_349.out _).trans (((cell_far (p:=⟨gb349,_,none⟩) NB332_349.out _).trans (hHeld.2.2.2.2.1)))),((cell_far (p:=⟨gb349,_,none⟩) NB332_349.out _).trans (((cell_far (p:=⟨gb349,_,none⟩) NB332_349.out _).trans (hHeld.2.2.2.2.2.1)))),((cell_far (p:=⟨gb349,_,none⟩) NB332_349.out _).trans (((cell_far (p:=⟨gb349,_,none⟩) NB332_349.out _).trans (hHeld.2.2.2.2.2.2.1)))),((cell_far (p:=⟨gb349,_,none⟩) NB332_349.out _).trans (((cell_far (p:=⟨gb349,_,none⟩) NB332_349.out _).trans (hHeld.2.2.2.2.2.2.2.1)))),((cell_far (p:=⟨gb349,_,none⟩) NB332_349.out _).trans (((cell_far (p:=⟨gb349,_,none⟩) NB332_349.out _).trans (hHeld.2.2.2.2.2.2.2.2.1)))),((cell_far (p:=⟨gb349,_,none⟩) NB332_349.out _).trans (((cell_far (p:=⟨gb349,_,none⟩) NB332_349.out _).trans (hHeld.2.2.2.2.2.2.2.2.2))))⟩ (fun hHeld => ?_)
    clear hK K
    refine pure_ (i:=22) (N:=some 8) (v:=?_) (a':=?_) #[true,true,true,true,true,true,true,true,true,true,true,true,true,true,true,true,true,true,true,true,true,true,true] rfl rfl (any_of HT_.out (by kernel_rfl)) (fun _ _ _ h => h) (Or.inl ⟨by rfl,?_⟩) ?_ ?_
    rotate_left
    ·intro w'
     go_simp;with_reducible rfl
    rotate_left
    ·simp only [Act.put,List.setIfInBounds_toArray,List.set_cons_zero,List.set_cons_succ,i64_w,i32_w]
     rfl
    refine done_ (done_of HT_.out (by kernel_rfl)) ?_
    have hnb52:=NB344_349.out
    have hnc52:=NB349_344.out
    have hcz53_0 : w49.cell? ⟨gb344,0,none⟩ = some (.int .u64 t341):=(blk_cell BK344.out 0).trans rfl
    have hcz53_1 : w49.cell? ⟨gb344,1,none⟩ = some (.int .u64 t342):=(blk_cell BK344.out 1).trans rfl
    have hfz53_0:=blk_frozen BK344.out 0
    have hfz53_1:=blk_frozen BK344.out 1
    have hnb54:=NB349_332.out
    have hnc54:=NB332_349.out
    have hnb55:=NB349_339.out
    have hnc55:=NB339_349.out
    have hnb56:=NB349_340.out
    have hnc56:=NB340_349.out
    have hcz57_0 : w49.cell? ⟨gb349,0,none⟩ = some (.int .u64 0):=(blk_cell BK349.out 0).trans rfl
    have hcz57_1 : w49.cell? ⟨gb349,1,none⟩ = some (.int .u64 0):=(blk_cell BK349.out 1).trans rfl
    have hfz57_0:=blk_frozen BK349.out 0
    have hfz57_1:=blk_frozen BK349.out 1
    by_cases c23 : t350 > 0
    ·rw [if_pos c23] at H
     have c23b0 : decide (0 < t350) = true:=decide_eq_true c23
     clear c23
     obtain rfl:=Option.some.inj H
     try go_wp2_with (first | ((with_reducible refine gate_callee (f:=57) rfl ?_);refine goesL_ (some 60) rfl rfl Tryd.func57 (by kernel_rfl) rfl #[.agg #[.int .u64 t341,.int .u64 t342],.agg #[.int .u64 t346,.int .u64 t347]] rfl aA ?_;(with_reducible refine (backfillref01_Cmp.calls k t341 t342 t346 t347 t350 _ A22.out).mono ?_);rintro e w58 ⟨rfl,hb⟩;refine ⟨_,rfl,?_⟩;have n0_:=Aside0.mk (blk_below (g:=gb332) (o:=.cells #[.int .i64 a0_0,.int .i64 a0_1,.int .i64 a0_2,.int .i64 a0_3,.int .i64 a0_4,.int .i64 a0_5,.int .i64 a0_6,.int .i64 a0_7] 23 (0,0)) (by (with_reducible repeat (first | refine blk_drewN ?_ _ | refine blk_drew ?_ | refine blk_alloc ?_ _));refine blk_far ?_ NB332_349.out _;(with_reducible repeat (first | refine blk_drewN ?_ _ | refine blk_drew ?_ | refine blk_alloc ?_ _));refine blk_far ?_ NB332_349.out _;exact kA) hb);have n1_:=Aside0.mk (blk_below (g:=gb339) (o:=.cells #[.int .u64 t335,.int .u64 t336] 94 (0,0)) (by (with_reducible repeat (first | refine blk_drewN ?_ _ | refine blk_drew ?_ | refine blk_alloc ?_ _));refine blk_far ?_ NB339_349.out _;(with_reducible repeat (first | refine blk_drewN ?_ _ | refine blk_drew ?_ | refine blk_alloc ?_ _));refine blk_far ?_ NB339_349.out _;exact kA) hb);have n2_:=Aside0.mk (blk_below (g:=gb340) (o:=.cells #[.int .u64 t337,.int .u64 t338] 94 (0,0)) (by (with_reducible repeat (first | refine blk_drewN ?_ _ | refine blk_drew ?_ | refine blk_alloc ?_ _));refine blk_far ?_ NB340_349.out _;(with_reducible repeat (first | refine blk_drewN ?_ _ | refine blk_drew ?_ | refine blk_alloc ?_ _));refine blk_far ?_ NB340_349.out _;exact kA) hb);have n3_:=Aside0.mk (blk_below (g:=gb344) (o:=.cells #[.int .u64 t341,.int .u64 t342] 94 (0,0)) (by (with_reducible repeat (first | refine blk_drewN ?_ _ | refine blk_drew ?_ | refine blk_alloc ?_ _));refine blk_far ?_ NB344_349.out _;(with_reducible repeat (first | refine blk_drewN ?_ _ | refine blk_drew ?_ | refine blk_alloc ?_ _));refine blk_far ?_ NB344_349.out _;exact kA) hb);have n4_:=Aside0.mk (blk_below (g:=gb349) (o:=.cells #[.int .u64 t346,.int .u64 t347] 94 (0,0)) (by (with_reducible repeat (first | refine blk_drewN ?_ _ | refine blk_drew ?_ | refine blk_alloc ?_ _));refine blk_put (cs:=#[.int .u64 t346,.int .u64 0]) ?_ 1 _ rfl;(with_reducible repeat (first | refine blk_drewN ?_ _ | refine blk_drew ?_ | refine blk_alloc ?_ _));refine blk_put (cs:=#[.int .u64 0,.int .u64 0]) ?_ 0 _ rfl;exact kA) hb);have n5_:=Aside0.mk (below_step bA hb);clear BK332 BK339 BK340 BK344 BK349 HB;have BK332:=n0_;have BK339:=n1_;have BK340:=n2_;have BK344:=n3_;have BK349:=n4_;have HB:=n5_;clear n0_ n1_ n2_ n3_ n4_ n5_;(try clear hb)))
     go_ret
     exact ⟨by first | rfl | (simp [errW_none,errW_some] <;> rfl) | (simp [*,errW_none,errW_some] <;> rfl),bA⟩
    ·rw [if_neg c23] at H
     have c23b0 : decide (0 < t350) = false:=decide_eq_false c23
     clear c23
     obtain rfl:=Option.some.inj H
     try go_wp2_with (first | ((with_reducible refine gate_callee (f:=57) rfl ?_);refine goesL_ (some 60) rfl rfl Tryd.func57 (by kernel_rfl) rfl #[.agg #[.int .u64 t341,.int .u64 t342],.agg #[.int .u64 t346,.int .u64 t347]] rfl aA ?_;(with_reducible refine (backfillref01_Cmp.calls k t341 t342 t346 t347 t350 _ A22.out).mono ?_);rintro e w58 ⟨rfl,hb⟩;refine ⟨_,rfl,?_⟩;have n0_:=Aside0.mk (blk_below (g:=gb332) (o:=.cells #[.int .i64 a0_0,.int .i64 a0_1,.int .i64 a0_2,.int .i64 a0_3,.int .i64 a0_4,.int .i64 a0_5,.int .i64 a0_6,.int .i64 a0_7] 23 (0,0)) (by (with_reducible repeat (first | refine blk_drewN ?_ _ | refine blk_drew ?_ | refine blk_alloc ?_ _));refine blk_far ?_ NB332_349.out _;(with_reducible repeat (first | refine blk_drewN ?_ _ | refine blk_drew ?_ | refine blk_alloc ?_ _));refine blk_far ?_ NB332_349.out _;exact kA) hb);have n1_:=Aside0.mk (blk_below (g:=gb339) (o:=.cells #[.int .u64 t335,.int .u64 t336] 94 (0,0)) (by (with_reducible repeat (first | refine blk_drewN ?_ _ | refine blk_drew ?_ | refine blk_alloc ?_ _));refine blk_far ?_ NB339_349.out _;(with_reducible repeat (first | refine blk_drewN ?_ _ | refine blk_drew ?_ | refine blk_alloc ?_ _));refine blk_far ?_ NB339_349.out _;exact kA) hb);have n2_:=Aside0.mk (blk_below (g:=gb340) (o:=.cells #[.int .u64 t337,.int .u64 t338] 94 (0,0)) (by (with_reducible repeat (first | refine blk_drewN ?_ _ | refine blk_drew ?_ | refine blk_alloc ?_ _));refine blk_far ?_ NB340_349.out _;(with_reducible repeat (first | refine blk_drewN ?_ _ | refine blk_drew ?_ | refine blk_alloc ?_ _));refine blk_far ?_ NB340_349.out _;exact kA) hb);have n3_:=Aside0.mk (blk_below (g:=gb344) (o:=.cells #[.int .u64 t341,.int .u64 t342] 94 (0,0)) (by (with_reducible repeat (first | refine blk_drewN ?_ _ | refine blk_drew ?_ | refine blk_alloc ?_ _));refine blk_far ?_ NB344_349.out _;(with_reducible repeat (first | refine blk_drewN ?_ _ | refine blk_drew ?_ | refine blk_alloc ?_ _));refine blk_far ?_ NB344_349.out _;exact kA) hb);have n4_:=Aside0.mk (blk_below (g:=gb349) (o:=.cells #[.int .u64 t346,.int .u64 t347] 94 (0,0)) (by (with_reducible repeat (first | refine blk_drewN ?_ _ | refine blk_drew ?_ | refine blk_alloc ?_ _));refine blk_put (cs:=#[.int .u64 t346,.int .u64 0]) ?_ 1 _ rfl;(with_reducible repeat (first | refine blk_drewN ?_ _ | refine blk_drew ?_ | refine blk_alloc ?_ _));refine blk_put (cs:=#[.int .u64 0,.int .u64 0]) ?_ 0 _ rfl;exact kA) hb);have n5_:=Aside0.mk (below_step bA hb);clear BK332 BK339 BK340 BK344 BK349 HB;have BK332:=n0_;have BK339:=n1_;have BK340:=n2_;have BK344:=n3_;have BK349:=n4_;have HB:=n5_;clear n0_ n1_ n2_ n3_ n4_ n5_;(try clear hb)))
     go_ret
     exact ⟨by first | rfl | (simp [errW_none,errW_some] <;> rfl) | (simp [*,errW_none,errW_some] <;> rfl),bA⟩
 ·replace c3:=Bool.eq_false_iff.mpr c3
  subst c3
  have H1 : (some 110) = some r:=by rw [if_neg (show ¬ (false = true) by decide)] at H;exact H
  clear H
  have H:=H1
  clear H1
  obtain rfl:=Option.some.inj H
  go_enter Tryd.func32,Tryd.ntmps32
  go_wp2_with (first | ((with_reducible refine gate_dst (N:=1) rfl ?_);refine bxA 1 #[.int .i64 a0_0,.int .i64 a0_1,.int .i64 a0_2,.int .i64 a0_3,.int .i64 a0_4,.int .i64 a0_5,.int .i64 a0_6,.int .i64 a0_7] 23 ?_;intro gb332 hg w94 hbox hb;have n0_:=Aside0.mk (below_step bA hb);have n1_:=Aside0.mk (hbox);have n2_:=Aside0.mk (gwA hg bA);have n3_:=Aside0.mk (gwA hg bA);clear HB;have HB:=n0_;have BK332:=n1_;have GW332:=n2_;have GE332:=n3_;clear n0_ n1_ n2_ n3_ hb hbox hg;have hcz95_0 : w94.cell? ⟨gb332,0,none⟩ = some (.int .i64 a0_0):=(blk_cell BK332.out 0).trans rfl;have hcz95_1 : w94.cell? ⟨gb332,1,none⟩ = some (.int .i64 a0_1):=(blk_cell BK332.out 1).trans rfl;have hcz95_2 : w94.cell? ⟨gb332,2,none⟩ = some (.int .i64 a0_2):=(blk_cell BK332.out 2).trans rfl;have hcz95_3 : w94.cell? ⟨gb332,3,none⟩ = some (.int .i64 a0_3):=(blk_cell BK332.out 3).trans rfl;have hcz95_4 : w94.cell? ⟨gb332,4,none⟩ = some (.int .i64 a0_4):=(blk_cell BK332.out 4).trans rfl;have hcz95_5 : w94.cell? ⟨gb332,5,none⟩ = some (.int .i64 a0_5):=(blk_cell BK332.out 5).trans rfl;have hcz95_6 : w94.cell? ⟨gb332,6,none⟩ = some (.int .i64 a0_6):=(blk_cell BK332.out 6).trans rfl;have hcz95_7 : w94.cell? ⟨gb332,7,none⟩ = some (.int .i64 a0_7):=(blk_cell BK332.out 7).trans rfl;have hfz95_0:=blk_frozen BK332.out 0;have hfz95_1:=blk_frozen BK332.out 1;have hfz95_2:=blk_frozen BK332.out 2;have hfz95_3:=blk_frozen BK332.out 3;have hfz95_4:=blk_frozen BK332.out 4;have hfz95_5:=blk_frozen BK332.out 5;have hfz95_6:=blk_frozen BK332.out 6;have hfz95_7:=blk_frozen BK332.out 7) | ((with_reducible refine gate_callee (f:=52) rfl ?_);refine goesL_ (some 10) rfl rfl Tryd.func52 (by kernel_rfl) rfl #[.agg #[.int .i64 a0_0,.int .i64 a0_1,.int .i64 a0_2,.int .i64 a0_3,.int .i64 a0_4,.int .i64 a0_5,.int .i64 a0_6,.int .i64 a0_7]] rfl aA ?_;(with_reducible refine (backfillref11_ranges.calls k a0_0 a0_1 a0_2 a0_3 a0_4 a0_5 a0_6 a0_7 false _ A2.out).mono ?_);rintro e w96 ⟨rfl,hb⟩;refine ⟨_,rfl,?_⟩;have n0_:=Aside0.mk (blk_below (g:=gb332) kA hb);have n1_:=Aside0.mk (below_step bA hb);clear BK332 HB;have BK332:=n0_;have HB:=n1_;clear n0_ n1_;(try clear hb)))
  go_ret
  exact ⟨by first | rfl | (simp [errW_none,errW_some] <;> rfl) | (simp [*,errW_none,errW_some] <;> rfl),bA⟩

end Go.Proofs.YtgjjfnjnjnbfgaaDoor.GLG
namespace Go.Proofs.YtgjjfnjnjnbfgaaDoor.GLG
open Go.RowKit Go.Proofs.YtgjjfnjnjnbfgaaDoorW.PrintWords Go.Proofs.YtgjjfnjnjnbfgaaDoorW.PrintLast Go.Proofs.YtgjjfnjnjnbfgaaDoorW.PrintMore
attribute [local go_sem] max2_int min2_int max_two min_two max_three min_three max_four min_four   -- for this text's walks alone
set_option linter.unusedVariables false
set_option linter.unusedSimpArgs false
def backfillref07_rungs.f  : Option (List Int):=some (([13043817825332782212,15511800964685064948,16915738899553466670,17664662643191237676,18051468387014017850,18248035989933441396,18347121020861646923,18396865112328554660,18421787711448657617,18434261669329232139,18440501815349552981,18443622680442407997,18445183311048607331,18445963675871538003,18446353870663572144,18446548971154807801,18446646522174239824,18446695297877410578,18446719685777359790,18446731879739425373,18446737976723480911,18446741025216264367,18446742549462845017,18446743311586182573,18446743692647863158,18446743883178706403,18446743978444128763,18446744026076840128,18446744049893195856,18446744061801373732,18446744067755462673,18446744070732507144] : List Int))
set_option maxHeartbeats 8000000 in
set_option maxRecDepth 100000 in
theorem backfillref07_rungs.calls  (r : List Int) (w : World) (h : backfillref07_rungs.f  = some r) :
  Calls Tryd.prog 83 #[] w fun e w' => ∃ v0_ : Value,e = .returned (v0_) ∧ Kd.R (Kd.int .u64) 28 w' w.heap.size (fun _ => True) v0_ r ∧ Below w.heap.size w w':=by
 have HB:=Aside0.mk (Below.refl w.heap.size w)
 have H : (some (([13043817825332782212,15511800964685064948,16915738899553466670,17664662643191237676,18051468387014017850,18248035989933441396,18347121020861646923,18396865112328554660,18421787711448657617,18434261669329232139,18440501815349552981,18443622680442407997,18445183311048607331,18445963675871538003,18446353870663572144,18446548971154807801,18446646522174239824,18446695297877410578,18446719685777359790,18446731879739425373,18446737976723480911,18446741025216264367,18446742549462845017,18446743311586182573,18446743692647863158,18446743883178706403,18446743978444128763,18446744026076840128,18446744049893195856,18446744061801373732,18446744067755462673,18446744070732507144] : List Int))) = some r:=h
 clear h
 obtain ⟨y351,hy351⟩ : ∃ y_ : List Int,y_ = (([13043817825332782212,15511800964685064948,16915738899553466670,17664662643191237676,18051468387014017850,18248035989933441396,18347121020861646923,18396865112328554660,18421787711448657617,18434261669329232139,18440501815349552981,18443622680442407997,18445183311048607331,18445963675871538003,18446353870663572144,18446548971154807801,18446646522174239824,18446695297877410578,18446719685777359790,18446731879739425373,18446737976723480911,18446741025216264367,18446742549462845017,18446743311586182573,18446743692647863158,18446743883178706403,18446743978444128763,18446744026076840128,18446744049893195856,18446744061801373732,18446744067755462673,18446744070732507144] : List Int)):=⟨_,rfl⟩
 replace H : (some y351) = some r:=by first | (rw [hy351];with_reducible exact H) | (have H2_:=(Option.bind_some _ _).symm.trans H;rw [hy351];with_reducible exact H2_) | (have H2_:=(Option.bind_some _ _).symm.trans H;with_reducible exact H2_) | with_reducible exact H | (rw [hy351];exact H) | exact H
 have Ny351:=Aside0.mk hy351
 clear hy351
 obtain rfl:=Option.some.inj H
 go_enter Tryd.func83,Tryd.ntmps83
 go_wp2_with (first | ((with_reducible refine gate_dst (N:=1) rfl ?_);refine Kd.R_lit (Kd.int .u64) _ 28 ?hg (N:=1) ?hd (xs:=([13043817825332782212,15511800964685064948,16915738899553466670,17664662643191237676,18051468387014017850,18248035989933441396,18347121020861646923,18396865112328554660,18421787711448657617,18434261669329232139,18440501815349552981,18443622680442407997,18445183311048607331,18445963675871538003,18446353870663572144,18446548971154807801,18446646522174239824,18446695297877410578,18446719685777359790,18446731879739425373,18446737976723480911,18446741025216264367,18446742549462845017,18446743311586182573,18446743692647863158,18446743883178706403,18446743978444128763,18446744026076840128,18446744049893195856,18446744061801373732,18446744067755462673,18446744070732507144] : List Int)) (inner:=[.int .u64 13043817825332782212,.int .u64 15511800964685064948,.int .u64 16915738899553466670,.int .u64 17664662643191237676,.int .u64 18051468387014017850,.int .u64 18248035989933441396,.int .u64 18347121020861646923,.int .u64 18396865112328554660,.int .u64 18421787711448657617,.int .u64 18434261669329232139,.int .u64 18440501815349552981,.int .u64 18443622680442407997,.int .u64 18445183311048607331,.int .u64 18445963675871538003,.int .u64 18446353870663572144,.int .u64 18446548971154807801,.int .u64 18446646522174239824,.int .u64 18446695297877410578,.int .u64 18446719685777359790,.int .u64 18446731879739425373,.int .u64 18446737976723480911,.int .u64 18446741025216264367,.int .u64 18446742549462845017,.int .u64 18446743311586182573,.int .u64 18446743692647863158,.int .u64 18446743883178706403,.int .u64 18446743978444128763,.int .u64 18446744026076840128,.int .u64 18446744049893195856,.int .u64 18446744061801373732,.int .u64 18446744067755462673,.int .u64 18446744070732507144]) (ok:=fun _ => True) (okp:=fun _ => True) ?hr ?hp (fun _ hk => hk) trivial (Below.refl _ _) (Nat.le_refl _) (by simp) ?_;(case hd => rfl);(case hg => rfl);(case hr => first | (go_simp;done) | (go_simp;rfl));(case hp => exact (Reps.one (show Kd.M (Kd.int .u64) _ _ _ 13043817825332782212 [.int .u64 13043817825332782212] from rfl) (Reps.one (show Kd.M (Kd.int .u64) _ _ _ 15511800964685064948 [.int .u64 15511800964685064948] from rfl) (Reps.one (show Kd.M (Kd.int .u64) _ _ _ 16915738899553466670 [.int .u64 16915738899553466670] from rfl) (Reps.one (show Kd.M (Kd.int .u64) _ _ _ 17664662643191237676 [.int .u64 17664662643191237676] from rfl) (Reps.one (show Kd.M (Kd.int .u64) _ _ _ 18051468387014017850 [.int .u64 18051468387014017850] from rfl) (Reps.one (show Kd.M (Kd.int .u64) _ _ _ 18248035989933441396 [.int .u64 18248035989933441396] from rfl) (Reps.one (show Kd.M (Kd.int .u64) _ _ _ 18347121020861646923 [.int .u64 18347121020861646923] from rfl) (Reps.one (show Kd.M (Kd.int .u64) _ _ _ 18396865112328554660 [.int .u64 18396865112328554660] from rfl) (Reps.one (show Kd.M (Kd.int .u64) _ _ _ 18421787711448657617 [.int .u64 18421787711448657617] from rfl) (Reps.one (show Kd.M (Kd.int .u64) _ _ _ 18434261669329232139 [.int .u64 18434261669329232139] from rfl) (Reps.one (show Kd.M (Kd.int .u64) _ _ _ 18440501815349552981 [.int .u64 18440501815349552981] from rfl) (Reps.one (show Kd.M (Kd.int .u64) _ _ _ 18443622680442407997 [.int .u64 18443622680442407997] from rfl) (Reps.one (show Kd.M (Kd.int .u64) _ _ _ 18445183311048607331 [.int .u64 18445183311048607331] from rfl) (Reps.one (show Kd.M (Kd.int .u64) _ _ _ 18445963675871538003 [.int .u64 18445963675871538003] from rfl) (Reps.one (show Kd.M (Kd.int .u64) _ _ _ 18446353870663572144 [.int .u64 18446353870663572144] from rfl) (Reps.one (show Kd.M (Kd.int .u64) _ _ _ 18446548971154807801 [.int .u64 18446548971154807801] from rfl) (Reps.one (show Kd.M (Kd.int .u64) _ _ _ 18446646522174239824 [.int .u64 18446646522174239824] from rfl) (Reps.one (show Kd.M (Kd.int .u64) _ _ _ 18446695297877410578 [.int .u64 18446695297877410578] from rfl) (Reps.one (show Kd.M (Kd.int .u64) _ _ _ 18446719685777359790 [.int .u64 18446719685777359790] from rfl) (Reps.one (show Kd.M (Kd.int .u64) _ _ _ 18446731879739425373 [.int .u64 18446731879739425373] from rfl) (Reps.one (show Kd.M (Kd.int .u64) _ _ _ 18446737976723480911 [.int .u64 18446737976723480911] from rfl) (Reps.one (show Kd.M (Kd.int .u64) _ _ _ 18446741025216264367 [.int .u64 18446741025216264367] from rfl) (Reps.one (show Kd.M (Kd.int .u64) _ _ _ 18446742549462845017 [.int .u64 18446742549462845017] from rfl) (Reps.one (show Kd.M (Kd.int .u64) _ _ _ 18446743311586182573 [.int .u64 18446743311586182573] from rfl) (Reps.one (show Kd.M (Kd.int .u64) _ _ _ 18446743692647863158 [.int .u64 18446743692647863158] from rfl) (Reps.one (show Kd.M (Kd.int .u64) _ _ _ 18446743883178706403 [.int .u64 18446743883178706403] from rfl) (Reps.one (show Kd.M (Kd.int .u64) _ _ _ 18446743978444128763 [.int .u64 18446743978444128763] from rfl) (Reps.one (show Kd.M (Kd.int .u64) _ _ _ 18446744026076840128 [.int .u64 18446744026076840128] from rfl) (Reps.one (show Kd.M (Kd.int .u64) _ _ _ 18446744049893195856 [.int .u64 18446744049893195856] from rfl) (Reps.one (show Kd.M (Kd.int .u64) _ _ _ 18446744061801373732 [.int .u64 18446744061801373732] from rfl) (Reps.one (show Kd.M (Kd.int .u64) _ _ _ 18446744067755462673 [.int .u64 18446744067755462673] from rfl) (Reps.one (show Kd.M (Kd.int .u64) _ _ _ 18446744070732507144 [.int .u64 18446744070732507144] from rfl) (Reps.none _ _))))))))))))))))))))))))))))))))));intro v352 w1 ho2 hb hg_ hnew_;clear hg_ hnew_;(first | rw [← Ny351.out] at ho2 | (simp only [Int.reduceToNat] at ho2;rw [← Ny351.out] at ho2));have n0_:=Aside0.mk (Kd.R_lower ho2 (below_size bA));have n1_:=Aside0.mk (below_step bA hb);clear HB;have HO353:=n0_;have HB:=n1_;clear n0_ n1_ hb ho2))
 go_ret
 exact ⟨_,by first | rfl | (simp [errW_none,errW_some] <;> rfl) | (simp [*,errW_none,errW_some] <;> rfl),by (with_reducible repeat (first | apply Kd.R_alloc | apply Kd.R_drewN | apply Kd.R_drew));exact HO353.out,bA⟩

def backfillref07_Half.l0 : Nat → Int → Int → List Int → Int → Int → Option (Int)
 | 0,_,_,_,_,_ => none
 | k + 1,x0,x3,x4,x5,x6 => if x6 ≤ 32 then (if 0 ≤ (wrap64 (32 - x6)) then (if (Go.bits .and .u64 (shr .u64 x0 (wrap64 (32 - x6))) 1) = 1 then (if 0 ≤ (wrap64 (x6 - 1)) then (if (wrap64 (x6 - 1)) < (x4.length : Int) then ((backfillref01_Mul.f x5 (rd x4 (wrap64 (x6 - 1)))).bind fun bt358 => (backfillref07_Half.l0 k x0 x3 x4 bt358.1 (wrap64 (x6 + 1)))) else (none)) else (none)) else (backfillref07_Half.l0 k x0 x3 x4 x5 (wrap64 (x6 + 1)))) else (none)) else (if 0 ≤ x3 then (some (shr .u64 x5 x3)) else (none))
def backfillref07_Half.f (k : Nat) (a0 : Int) : Option (Int):=if (a0 / 4294967296) ≥ 63 then (some 0) else ((backfillref07_rungs.f).bind fun t354 => (backfillref07_Half.l0 k a0 (a0 / 4294967296) t354 9223372036854775808 1))
theorem backfillref07_Half.mono_l : ∀ k,(∀ y0 y1 y2 y3 y4,LeO (backfillref07_Half.l0 k y0 y1 y2 y3 y4) (backfillref07_Half.l0 (k + 1) y0 y1 y2 y3 y4))
 | 0 => fun _ _ _ _ _ r h => by simp [backfillref07_Half.l0] at h
 | k + 1 => by
  have ih0:=backfillref07_Half.mono_l k
  ·intro y0 y1 y2 y3 y4
   unfold backfillref07_Half.l0
   repeat' first
   | (with_reducible exact ih0 _ _ _ _ _)
   | (with_reducible exact LeO.refl _)
   | (with_reducible exact LeO.none _)
   | (with_reducible refine LeO.ite ?_ ?_)
   | (with_reducible refine LeO.bind ?_ (fun _ => ?_))
   | exact ih0 _ _ _ _ _
   | exact LeO.none _
   | refine LeO.ite ?_ ?_
   | refine LeO.bind ?_ (fun _ => ?_)
theorem backfillref07_Half.mono : ∀ a0 k,LeO (backfillref07_Half.f k a0) (backfillref07_Half.f (k + 1) a0):=by
 intro a0 k
 have ih0:=backfillref07_Half.mono_l k
 unfold backfillref07_Half.f
 repeat' first
   | (with_reducible exact ih0 _ _ _ _ _)
   | (with_reducible exact LeO.refl _)
   | (with_reducible exact LeO.none _)
   | (with_reducible refine LeO.ite ?_ ?_)
   | (with_reducible refine LeO.bind ?_ (fun _ => ?_))
   | exact ih0 _ _ _ _ _
   | exact LeO.none _
   | refine LeO.ite ?_ ?_
   | refine LeO.bind ?_ (fun _ => ?_)
set_option maxHeartbeats 8000000 in
set_option maxRecDepth 100000 in
theorem backfillref07_Half.calls (k : Nat) (a0 : Int) (r : Int) (w : World) (h : backfillref07_Half.f k a0 = some r) :
  Calls Tryd.prog 58 #[.int .u64 a0] w fun e w' => e = .returned (.int .u64 r) ∧ Below w.heap.size w w':=by
 have hfd94_0 : ∀ (x0 : Int) (x1 : Int) (W_ : World),(Instr.field 94 (.agg #[(.int .u64 x0),(.int .u64 x1)]) 0).run Tryd.prog W_ = .ok ((.int .u64 x0)) W_:=by intros;kernel_rfl
 have HB:=Aside0.mk (Below.refl w.heap.size w)
 have H : (if (a0 / 4294967296) ≥ 63 then (some 0) else ((backfillref07_rungs.f).bind fun t354 => (backfillref07_Half.l0 k a0 (a0 / 4294967296) t354 9223372036854775808 1))) = some r:=h
 clear h
 by_cases c2 : (a0 / 4294967296) ≥ 63
 ·rw [if_pos c2] at H
  have c2b0 : decide (63 ≤ (a0 / 4294967296)) = true:=decide_eq_true c2
  clear c2
  obtain rfl:=Option.some.inj H
  go_enter Tryd.func58,Tryd.ntmps58
  go_wp2
  go_ret
  exact ⟨by first | rfl | (simp [errW_none,errW_some] <;> rfl) | (simp [*,errW_none,errW_some] <;> rfl),bA⟩
 ·rw [if_neg c2] at H
  have c2b0 : decide (63 ≤ (a0 / 4294967296)) = false:=decide_eq_false c2
  clear c2;replace H:=Option.bind_eq_some_iff.mp H;obtain ⟨t354,A30,H⟩:=H;replace H : (backfillref07_Half.l0 k a0 (a0 / 4294967296) t354 9223372036854775808 1) = some r:=H;have A3:=Aside0.mk A30;clear A30
  have H':=Aside0.mk H
  clear H
  go_enter Tryd.func58,Tryd.ntmps58
  go_wp2_with (first | ((with_reducible refine gate_callee (f:=83) rfl ?_);refine goesL_ (some 11) rfl rfl Tryd.func83 (by kernel_rfl) rfl #[] rfl aA ?_;(with_reducible refine (backfillref07_rungs.calls  t354 _ A3.out).mono ?_);rintro e w4 ⟨v355,rfl,ho0,hb⟩;refine ⟨_,rfl,?_⟩;have n0_:=Aside0.mk (Kd.R_lower ho0 (below_size bA));have n1_:=Aside0.mk (below_step bA hb);clear HB;have HO356:=n0_;have HB:=n1_;clear n0_ n1_;(try clear hb);(try clear ho0)))
  go_loopg [5,6] k (fun kq v5 v6 w' => ∃ (x5_1 : Int) (x6_1 : Int),v5 = .int .u64 x5_1 ∧ v6 = .int .i64 x6_1 ∧ Aside0 (backfillref07_Half.l0 kq a0 (a0 / 4294967296) t354 x5_1 x6_1 = some r) ∧ Aside0 (kq ≤ k) ∧ Aside0 (Kd.R (Kd.int .u64) 28 w' w.heap.size (fun _ => True) v355 t354) ∧ Aside0 (Below w.heap.size w w'))
  case atStart => exact ⟨(9223372036854775808),(1),(by first | rfl | (simp;done) | (simp [*];done)),(by first | rfl | (simp;done) | (simp [*];done)),H',⟨Nat.le_refl _⟩,⟨by (with_reducible repeat (first | apply Kd.R_alloc | apply Kd.R_drewN | apply Kd.R_drew));exact HO356.out⟩,⟨bA⟩⟩
  case round =>
   clear H'
   try clear c2
   try clear c2b0
   try clear p2
   obtain ⟨x5_1,x6_1,rfl,rfl,HA,HK1,HO_4,HB⟩:=hrel
   cases gk with
   | zero => exact absurd HA.out (by simp [backfillref07_Half.l0])
   | succ k1 =>
    have H:=HA.out
    clear HA
    simp only [backfillref07_Half.l0] at H
    by_cases c5 : x6_1 ≤ 32
    ·rw [if_pos c5] at H
     have c5b0 : decide (x6_1 ≤ 32) = true:=decide_eq_true c5
     clear c5
     obtain ⟨ji6,hji6⟩ : ∃ j_ : Int,(wrap64 (32 - x6_1)) = j_:=⟨_,rfl⟩
     replace H : (if 0 ≤ (ji6) then (if (Go.bits .and .u64 (shr .u64 a0 (ji6)) 1) = 1 then (if 0 ≤ (wrap64 (x6_1 - 1)) then (if (wrap64 (x6_1 - 1)) < (t354.length : Int) then ((backfillref01_Mul.f x5_1 (rd t354 (wrap64 (x6_1 - 1)))).bind fun bt358 => (backfillref07_Half.l0 k1 a0 (a0 / 4294967296) t354 bt358.1 (wrap64 (x6_1 + 1)))) else (none)) else (none)) else (backfillref07_Half.l0 k1 a0 (a0 / 4294967296) t354 x5_1 (wrap64 (x6_1 + 1)))) else (none)) = some r:=by first | (rw [hji6] at H;exact H) | (simp only [hji6] at H ⊢;exact H)
     have hji6w : (IntKind.i64.wrap (32 - x6_1)) = ji6:=(i64_w _).trans hji6
     by_cases c7 : 0 ≤ (ji6)
     ·rw [if_pos c7] at H
      have c7b0:=eq_true c7
      have c7b1 : decide (0 ≤ (ji6)) = true:=decide_eq_true c7
      clear c7
      obtain ⟨ji8,hji8⟩ : ∃ j_ : Int,(shr .u64 a0 (ji6)) = j_:=⟨_,rfl⟩
      replace H : (if (Go.bits .and .u64 (ji8) 1) = 1 then (if 0 ≤ (wrap64 (x6_1 - 1)) then (if (wrap64 (x6_1 - 1)) < (t354.length : Int) then ((backfillref01_Mul.f x5_1 (rd t354 (wrap64 (x6_1 - 1)))).bind fun bt358 => (backfillref07_Half.l0 k1 a0 (a0 / 4294967296) t354 bt358.1 (wrap64 (x6_1 + 1)))) else (none)) else (none)) else (backfillref07_Half.l0 k1 a0 (a0 / 4294967296) t354 x5_1 (wrap64 (x6_1 + 1)))) = some r:=by first | (rw [hji8] at H;exact H) | (simp only [hji8] at H ⊢;exact H)
      have hji8_ : (a0 / 2 ^ min (ji6).toNat 64) = ji8:=hji8
      have hji8z : (ji6) ≤ 64 → (a0 / 2 ^ (ji6).toNat) = ji8:=shr_small hji8
      by_cases c9 : (Go.bits .and .u64 (ji8) 1) = 1
      ·rw [if_pos c9] at H
       have c9b0 : ((Go.bits .and .u64 (ji8) 1) == 1) = true:=beq_iff_eq.mpr c9
       have c9b1 : ((Go.bits .and .u64 (ji8) 1) != 1) = false:=bne_eq_false_iff_eq.mpr c9
       clear c9
       obtain ⟨ji10,hji10⟩ : ∃ j_ : Int,(wrap64 (x6_1 - 1)) = j_:=⟨_,rfl⟩
       replace H : (if 0 ≤ (ji10) then (if (ji10) < (t354.length : Int) then ((backfillref01_Mul.f x5_1 (rd t354 (ji10))).bind fun bt358 => (backfillref07_Half.l0 k1 a0 (a0 / 4294967296) t354 bt358.1 (wrap64 (x6_1 + 1)))) else (none)) else (none)) = some r:=by first | (rw [hji10] at H;exact H) | (simp only [hji10] at H ⊢;exact H)
       have hji10w : (IntKind.i64.wrap (x6_1 - 1)) = ji10:=(i64_w _).trans hji10
       by_cases c11 : 0 ≤ (ji10)
       ·rw [if_pos c11] at H
        have c11b0 : decide (0 ≤ (ji10)) = true:=decide_eq_true c11
        clear c11
        by_cases c12 : (ji10) < (t354.length : Int)
        ·rw [if_pos c12] at H
         have c12b0 : decide ((ji10) < (t354.length : Int)) = true:=decide_eq_true c12
         clear c12;replace H:=Option.bind_eq_some_iff.mp H;obtain ⟨⟨t358,t359⟩,A130,H⟩:=H;replace H : (backfillref07_Half.l0 k1 a0 (a0 / 4294967296) t354 t358 (wrap64 (x6_1 + 1))) = some r:=H;have A13:=Aside0.mk A130;clear A130
         have H':=Aside0.mk H
         clear H
         obtain ⟨Ao14,co14,eo14⟩:=Kd.R_slice HO_4.out
         subst eo14
         have p357 : 0 ≤ ((ji10) : Int):=of_decide_eq_true (by first | (with_reducible assumption) | assumption)
         have q357 : (ji10) < (t354.length : Int):=of_decide_eq_true (by first | (with_reducible assumption) | assumption)
         obtain ⟨ad357,e357,hx357_0⟩:=Kd.at_int (Kd.R_reads' HO_4.out).2.2 (ji10) p357 q357
         cases e357
         replace p357:=eq_true p357
         replace q357:=eq_true q357
         go_wp2_with (first | ((with_reducible refine gate_callee (f:=78) rfl ?_);refine goesL_ (some 28) rfl rfl Tryd.func78 (by kernel_rfl) rfl #[.int .u64 x5_1,.int .u64 (rd t354 (ji10))] rfl (by (try simp only [List.map_toArray,List.map_cons,List.map_nil]);first | done | (simp only [hji10];rfl) | rfl | (simp only [List.length_drop,List.length_take];rfl)) ?_;(with_reducible refine (backfillref01_Mul.calls x5_1 (rd t354 (ji10)) t358 t359 _ A13.out).mono ?_);rintro e w15 ⟨rfl,hb⟩;refine ⟨_,rfl,?_⟩;have n0_:=Aside0.mk (Kd.R_below (by (with_reducible repeat (first | apply Kd.R_alloc | apply Kd.R_drewN | apply Kd.R_drew));exact HO_4.out) hb);have n1_:=Aside0.mk (below_step bA hb);clear HO_4 HB;have HO_4:=n0_;have HB:=n1_;clear n0_ n1_;(try clear hb)))
         go_roundg k1
         case measure => have:=HK1.out;omega
         case rel => exact ⟨(t358),(wrap64 (x6_1 + 1)),(by first | rfl | (simp;done) | (simp [*];done)),(by first | rfl | (simp;done) | (simp [*];done)),H',⟨by have:=HK1.out;omega⟩,⟨by (with_reducible repeat (first | apply Kd.R_alloc | apply Kd.R_drewN | apply Kd.R_drew));exact HO_4.out⟩,⟨bA⟩⟩
        ·rw [if_neg c12] at H
         exact absurd H (by simp)
       ·rw [if_neg c11] at H
        exact absurd H (by simp)
      ·rw [if_neg c9] at H
       have c9b0 : ((Go.bits .and .u64 (ji8) 1) == 1) = false:=beq_eq_false_iff_ne.mpr c9
       have c9b1 : ((Go.bits .and .u64 (ji8) 1) != 1) = true:=bne_iff_ne.mpr c9
       have H':=Aside0.mk H
       clear H
       go_wp2
       go_roundg k1
       case measure => have:=HK1.out;omega
       case rel => exact ⟨(x5_1),(wrap64 (x6_1 + 1)),(by first | rfl | (simp;done) | (simp [*];done)),(by first | rfl | (simp;done) | (simp [*];done)),H',⟨by have:=HK1.out;omega⟩,⟨by (with_reducible repeat (first | apply Kd.R_alloc | apply Kd.R_drewN | apply Kd.R_drew));exact HO_4.out⟩,⟨bA⟩⟩
     ·rw [if_neg c7] at H
      exact absurd H (by simp)
    ·rw [if_neg c5] at H
     have c5b0 : decide (x6_1 ≤ 32) = false:=decide_eq_false c5
     clear c5
     obtain ⟨ji16,hji16⟩ : ∃ j_ : Int,(a0 / 4294967296) = j_:=⟨_,rfl⟩
     replace H : (if 0 ≤ (ji16) then (some (shr .u64 x5_1 (ji16))) else (none)) = some r:=by first | (rw [hji16] at H;exact H) | (simp only [hji16] at H ⊢;exact H)
     (try rw [hji16] at c2b0)
     by_cases c17 : 0 ≤ (ji16)
     ·rw [if_pos c17] at H
      have c17b0:=eq_true c17
      have c17b1 : decide (0 ≤ (ji16)) = true:=decide_eq_true c17
      clear c17
      obtain ⟨ji18,hji18⟩ : ∃ j_ : Int,(shr .u64 x5_1 (ji16)) = j_:=⟨_,rfl⟩
      replace H : (some ji18) = some r:=by first | (rw [hji18] at H;exact H) | (simp only [hji18] at H ⊢;exact H)
      have hji18_ : (x5_1 / 2 ^ min (ji16).toNat 64) = ji18:=hji18
      have hji18z : (ji16) ≤ 64 → (x5_1 / 2 ^ (ji16).toNat) = ji18:=shr_small hji18
      obtain rfl:=Option.some.inj H
      go_wp2
      go_ret
      exact ⟨by first | rfl | (simp [errW_none,errW_some] <;> rfl) | (simp only [← hji16,← hji18];first | rfl | (simp [errW_none,errW_some] <;> rfl)) | (simp [*,errW_none,errW_some] <;> rfl),bA⟩
     ·rw [if_neg c17] at H
      exact absurd H (by simp)

def backfillref10_Factor.j0 : Nat → Int → Int → Bool → Option (Int × Int)
 | 0,_,_,_ => none
 | k + 1,x0,x1,x19 => if x19 = true then (some (0,100)) else ((backfillref10_Exponent.f x0 x1).bind fun t360 => ((backfillref07_Half.f k t360).bind fun t361 => (some (t361,0))))
def backfillref10_Factor.f (k : Nat) (a0 : Int) (a1 : Int) : Option (Int × Int):=if a0 < 1 then (backfillref10_Factor.j0 k a0 a1 true) else (if a0 > 1048576 then (backfillref10_Factor.j0 k a0 a1 true) else (if a1 < 1 then (backfillref10_Factor.j0 k a0 a1 true) else (backfillref10_Factor.j0 k a0 a1 (decide (a1 > 1073741824)))))
theorem backfillref10_Factor.mono_l : ∀ k,(∀ y0 y1 y2,LeO (backfillref10_Factor.j0 k y0 y1 y2) (backfillref10_Factor.j0 (k + 1) y0 y1 y2))
 | 0 => fun _ _ _ r h => by simp [backfillref10_Factor.j0] at h
 | k + 1 => by
  have ih0:=backfillref10_Factor.mono_l k
  ·intro y0 y1 y2
   unfold backfillref10_Factor.j0
   repeat' first
   | (with_reducible exact ih0 _ _ _)
   | (with_reducible exact backfillref07_Half.mono _ _)
   | (with_reducible exact LeO.refl _)
   | (with_reducible exact LeO.none _)
   | (with_reducible refine LeO.ite ?_ ?_)
   | (with_reducible refine LeO.bind ?_ (fun _ => ?_))
   | exact ih0 _ _ _
   | exact backfillref07_Half.mono _ _
   | exact LeO.none _
   | refine LeO.ite ?_ ?_
   | refine LeO.bind ?_ (fun _ => ?_)
theorem backfillref10_Factor.mono : ∀ a0 a1 k,LeO (backfillref10_Factor.f k a0 a1) (backfillref10_Factor.f (k + 1) a0 a1):=by
 intro a0 a1 k
 have ih0:=backfillref10_Factor.mono_l k
 unfold backfillref10_Factor.f
 repeat' first
   | (with_reducible exact ih0 _ _ _)
   | (with_reducible exact backfillref07_Half.mono _ _)
   | (with_reducible exact LeO.refl _)
   | (with_reducible exact LeO.none _)
   | (with_reducible refine LeO.ite ?_ ?_)
   | (with_reducible refine LeO.bind ?_ (fun _ => ?_))
   | exact ih0 _ _ _
   | exact backfillref07_Half.mono _ _
   | exact LeO.none _
   | refine LeO.ite ?_ ?_
   | refine LeO.bind ?_ (fun _ => ?_)
set_option maxHeartbeats 8000000 in
set_option maxRecDepth 100000 in
theorem backfillref10_Factor.calls (k : Nat) (a0 : Int) (a1 : Int) (r1 : Int) (r2 : Int) (w : World) (h : backfillref10_Factor.f k a0 a1 = some (r1,r2)) :
  Calls Tryd.prog 33 #[.int .i64 a0,.int .i64 a1] w fun e w' => e = .returned (.tuple #[.int .u64 r1,.int .i64 r2]) ∧ Below w.heap.size w w':=by
 have HB:=Aside0.mk (Below.refl w.heap.size w)
 have H : (if a0 < 1 then (backfillref10_Factor.j0 k a0 a1 true) else (if a0 > 1048576 then (backfillref10_Factor.j0 k a0 a1 true) else (if a1 < 1 then (backfillref10_Factor.j0 k a0 a1 true) else (backfillref10_Factor.j0 k a0 a1 (decide (a1 > 1073741824)))))) = some (r1,r2):=h
 clear h
 have HC3:=Aside0.mk H
 clear H
 go_enter Tryd.func33,Tryd.ntmps33
 go_upto_region 1 with (fail)
 go_cut [19] (fun v19 wc => ∃ (kq : Nat) (x19_2 : Bool),v19 = .bool x19_2 ∧ Aside0 (backfillref10_Factor.j0 kq a0 a1 x19_2 = some (r1,r2)) ∧ Aside0 (kq ≤ k) ∧ Aside0 (Below w.heap.size w wc))
 case first =>
  have H:=HC3.out
  clear HC3
  by_cases c4 : a0 < 1
  ·rw [if_pos c4] at H
   have c4b0 : decide (a0 < 1) = true:=decide_eq_true c4
   clear c4
   (first | rw [c4b0] | (simp only [i64_w,i32_w];rw [c4b0]) | skip)
   have H':=Aside0.mk H
   clear H
   go_wp2
   go_meet
   case rel => exact ⟨_,(true),(by first | rfl | (simp;done) | (simp [*];done)),H',⟨by first | omega | exact Nat.le_refl _⟩,⟨bA⟩⟩
  ·rw [if_neg c4] at H
   have c4b0 : decide (a0 < 1) = false:=decide_eq_false c4
   clear c4
   (first | rw [c4b0] | (simp only [i64_w,i32_w];rw [c4b0]) | skip)
   by_cases c5 : a0 > 1048576
   ·rw [if_pos c5] at H
    have c5b0 : decide (1048576 < a0) = true:=decide_eq_true c5
    clear c5
    have H':=Aside0.mk H
    clear H
    go_wp2
    go_meet
    case rel => exact ⟨_,(true),(by first | rfl | (simp;done) | (simp [*];done)),H',⟨by first | omega | exact Nat.le_refl _⟩,⟨bA⟩⟩
   ·rw [if_neg c5] at H
    have c5b0 : decide (1048576 < a0) = false:=decide_eq_false c5
    clear c5
    by_cases c6 : a1 < 1
    ·rw [if_pos c6] at H
     have c6b0 : decide (a1 < 1) = true:=decide_eq_true c6
     clear c6
     have H':=Aside0.mk H
     clear H
     go_wp2
     go_meet
     case rel => exact ⟨_,(true),(by first | rfl | (simp;done) | (simp [*];done)),H',⟨by first | omega | exact Nat.le_refl _⟩,⟨bA⟩⟩
    ·rw [if_neg c6] at H
     have c6b0 : decide (a1 < 1) = false:=decide_eq_false c6
     clear c6
     have H':=Aside0.mk H
     clear H
     go_wp2
     go_meet
     case rel => exact ⟨_,(decide (a1 > 1073741824)),(by first | rfl | (simp;done) | (simp [*];done)),H',⟨by first | omega | exact Nat.le_refl _⟩,⟨bA⟩⟩
 case rest =>
  clear HC3
  try clear p2
  try clear c3
  try clear c4
  try clear c4b0
  try clear c5
  try clear c5b0
  try clear c6
  try clear c6b0
  obtain ⟨kq,x19_2,rfl,HA,HJ2,HB⟩:=hcut
  cases kq with
  | zero => exact absurd HA.out (by simp [backfillref10_Factor.j0])
  | succ kj2 =>
   have H:=HA.out
   clear HA
   simp only [backfillref10_Factor.j0] at H
   by_cases c7 : x19_2 = true
   ·subst c7
    have H1 : (some (0,100)) = some (r1,r2):=by rw [if_pos rfl] at H;exact H
    clear H
    have H:=H1
    clear H1
    simp only [Option.some.injEq,Prod.mk.injEq] at H
    obtain ⟨rfl,rfl⟩:=H
    go_wp2
    go_ret2
    exact ⟨by first | rfl | (simp [errW_none,errW_some] <;> rfl) | (simp [*,errW_none,errW_some] <;> rfl),bA⟩
   ·replace c7:=Bool.eq_false_iff.mpr c7
    subst c7
    have H1 : ((backfillref10_Exponent.f a0 a1).bind fun t360 => ((backfillref07_Half.f kj2 t360).bind fun t361 => (some (t361,0)))) = some (r1,r2):=by rw [if_neg (show ¬ (false = true) by decide)] at H;exact H
    clear H
    have H:=H1
    clear H1;replace H:=Option.bind_eq_some_iff.mp H;obtain ⟨t360,A80,H⟩:=H;replace H : ((backfillref07_Half.f kj2 t360).bind fun t361 => (some (t361,0))) = some (r1,r2):=H;have A8:=Aside0.mk A80;clear A80;replace H:=Option.bind_eq_some_iff.mp H;obtain ⟨t361,A90,H⟩:=H;replace H : (some (t361,0)) = some (r1,r2):=H;have A9:=Aside0.mk A90;clear A90
    simp only [Option.some.injEq,Prod.mk.injEq] at H
    obtain ⟨rfl,rfl⟩:=H
    go_wp2_with (first | ((with_reducible refine gate_callee (f:=59) rfl ?_);refine goesL_ (some 22) rfl rfl Tryd.func59 (by kernel_rfl) rfl #[.int .i64 a0,.int .i64 a1] rfl aA ?_;(with_reducible refine (backfillref10_Exponent.calls a0 a1 t360 _ A8.out).mono ?_);rintro e w' ⟨rfl,⟨nd,rfl⟩⟩;refine ⟨_,rfl,?_⟩) | ((with_reducible refine gate_callee (f:=58) rfl ?_);refine goesL_ (some 23) rfl rfl Tryd.func58 (by kernel_rfl) rfl #[.int .u64 t360] rfl aA ?_;(with_reducible refine (backfillref07_Half.calls kj2 t360 t361 _ A9.out).mono ?_);rintro e w10 ⟨rfl,hb⟩;refine ⟨_,rfl,?_⟩;have n0_:=Aside0.mk (below_step bA hb);clear HB;have HB:=n0_;clear n0_;(try clear hb)))
    go_ret2
    exact ⟨by first | rfl | (simp [errW_none,errW_some] <;> rfl) | (simp [*,errW_none,errW_some] <;> rfl),bA⟩


def backfilllaw12_usages.l0 : Nat → List Int → List Int → Int → Int → Option (Bool)
 | 0,_,_,_,_ => none
 | k + 1,x0,x1,x12,x13 => if x13 < x12 then (if 0 ≤ x13 then (if x13 < (x0.length : Int) then (if x13 < (x1.length : Int) then (if (rd x0 x13) = (rd x1 x13) then (backfilllaw12_usages.l0 k x0 x1 x12 (wrap64 (x13 + 1))) else (some false)) else (none)) else (none)) else (none)) else (some true)
def backfilllaw12_usages.f (k : Nat) (l0 : List Int) (l1 : List Int) : Option (Bool):=if (l0.length : Int) = (l1.length : Int) then (backfilllaw12_usages.l0 k l0 l1 (l0.length : Int) 0) else (some false)
theorem backfilllaw12_usages.mono_l : ∀ k,(∀ y0 y1 y2 y3,LeO (backfilllaw12_usages.l0 k y0 y1 y2 y3) (backfilllaw12_usages.l0 (k + 1) y0 y1 y2 y3))
 | 0 => fun _ _ _ _ r h => by simp [backfilllaw12_usages.l0] at h
 | k + 1 => by
  have ih0:=backfilllaw12_usages.mono_l k
  ·intro y0 y1 y2 y3
   unfold backfilllaw12_usages.l0
   repeat' first
   | (with_reducible exact ih0 _ _ _ _)
   | (with_reducible exact LeO.refl _)
   | (with_reducible exact LeO.none _)
   | (with_reducible refine LeO.ite ?_ ?_)
   | (with_reducible refine LeO.bind ?_ (fun _ => ?_))
   | exact ih0 _ _ _ _
   | exact LeO.none _
   | refine LeO.ite ?_ ?_
   | refine LeO.bind ?_ (fun _ => ?_)
theorem backfilllaw12_usages.mono : ∀ a0 a1 k,LeO (backfilllaw12_usages.f k a0 a1) (backfilllaw12_usages.f (k + 1) a0 a1):=by
 intro a0 a1 k
 have ih0:=backfilllaw12_usages.mono_l k
 unfold backfilllaw12_usages.f
 repeat' first
   | (with_reducible exact ih0 _ _ _ _)
   | (with_reducible exact LeO.refl _)
   | (with_reducible exact LeO.none _)
   | (with_reducible refine LeO.ite ?_ ?_)
   | (with_reducible refine LeO.bind ?_ (fun _ => ?_))
   | exact ih0 _ _ _ _
   | exact LeO.none _
   | refine LeO.ite ?_ ?_
   | refine LeO.bind ?_ (fun _ => ?_)
set_option maxHeartbeats 8000000 in
set_option maxRecDepth 100000 in
theorem backfilllaw12_usages.calls (k : Nat) (A0 : Option Addr) (c0 : Nat) (l0 : List Int) (A1 : Option Addr) (c1 : Nat) (l1 : List Int) (r : Bool) (w : World) (hr0 : Kd.C (Kd.int .u64) w A0 l0.length l0) (hc0 : l0.length ≤ c0) (hr1 : Kd.C (Kd.int .u64) w A1 l1.length l1) (hc1 : l1.length ≤ c1) (h : backfilllaw12_usages.f k l0 l1 = some r) :
  Calls Tryd.prog 11 #[.slice A0 l0.length c0,.slice A1 l1.length c1] w fun e w' => e = .returned (.bool r) ∧ Drawn0 w w':=by
 have HR0:=Aside0.mk hr0
 have HC0:=Aside0.mk hc0
 clear hr0 hc0
 have HR1:=Aside0.mk hr1
 have HC1:=Aside0.mk hc1
 clear hr1 hc1
 have H : (if (l0.length : Int) = (l1.length : Int) then (backfilllaw12_usages.l0 k l0 l1 (l0.length : Int) 0) else (some false)) = some r:=h
 clear h
 by_cases c3 : (l0.length : Int) = (l1.length : Int)
 ·rw [if_pos c3] at H
  have c3b0 : ((l0.length : Int) == (l1.length : Int)) = true:=beq_iff_eq.mpr c3
  have c3b1 : ((l0.length : Int) != (l1.length : Int)) = false:=bne_eq_false_iff_eq.mpr c3
  have c3b2 : (l0.length == l1.length) = true:=by first | simpa using c3 | (simp at c3 ⊢;omega)
  clear c3
  have H':=Aside0.mk H
  clear H
  go_enter Tryd.func11,Tryd.ntmps11
  go_wp2
  repeat (go_quiet (fail);try go_wp2)
  go_loopg [13] k (fun kq v13 w' => ∃ (x13_1 : Int),v13 = .int .i64 x13_1 ∧ Aside0 (backfilllaw12_usages.l0 kq l0 l1 (l0.length : Int) x13_1 = some r) ∧ Aside0 (kq ≤ k) ∧ Drawn0 w w')
  case atStart => exact ⟨(0),(by first | rfl | (simp;done) | (simp [*];done)),H',⟨Nat.le_refl _⟩,by repeat (first | exact Drawn0.refl _ | apply Drawn0.step)⟩
  case round =>
   clear H'
   try clear c1
   try clear p2
   try clear c3
   try clear c3b0
   try clear c3b1
   try clear c3b2
   obtain ⟨x13_1,rfl,HA,HK1,⟨m1,rfl⟩⟩:=hrel
   cases gk with
   | zero => exact absurd HA.out (by simp [backfilllaw12_usages.l0])
   | succ k1 =>
    have H:=HA.out
    clear HA
    simp only [backfilllaw12_usages.l0] at H
    by_cases c4 : x13_1 < (l0.length : Int)
    ·rw [if_pos c4] at H
     have c4b0 : decide (x13_1 < (l0.length : Int)) = true:=decide_eq_true c4
     clear c4
     by_cases c5 : 0 ≤ x13_1
     ·rw [if_pos c5] at H
      have c5b0 : decide (0 ≤ x13_1) = true:=decide_eq_true c5
      clear c5
      by_cases c6 : x13_1 < (l0.length : Int)
      ·rw [if_pos c6] at H
       have c6b0 : decide (x13_1 < (l0.length : Int)) = true:=decide_eq_true c6
       clear c6
       by_cases c7 : x13_1 < (l1.length : Int)
       ·rw [if_pos c7] at H
        have c7b0 : decide (x13_1 < (l1.length : Int)) = true:=decide_eq_true c7
        clear c7
        by_cases c8 : (rd l0 x13_1) = (rd l1 x13_1)
        ·rw [if_pos c8] at H
         have c8b0 : ((rd l0 x13_1) == (rd l1 x13_1)) = true:=beq_iff_eq.mpr c8
         have c8b1 : ((rd l0 x13_1) != (rd l1 x13_1)) = false:=bne_eq_false_iff_eq.mpr c8
         clear c8
         have H':=Aside0.mk H
         clear H
         have p362 : 0 ≤ (x13_1 : Int):=of_decide_eq_true (by first | (with_reducible assumption) | assumption)
         have q362 : x13_1 < (l0.length : Int):=of_decide_eq_true (by first | (with_reducible assumption) | assumption)
         obtain ⟨ad362,e362,hx362_0⟩:=Kd.at_int HR0.out x13_1 p362 q362
         cases e362
         replace p362:=eq_true p362
         replace q362:=eq_true q362
         have p363 : 0 ≤ (x13_1 : Int):=of_decide_eq_true (by first | (with_reducible assumption) | assumption)
         have q363 : x13_1 < (l1.length : Int):=of_decide_eq_true (by first | (with_reducible assumption) | assumption)
         obtain ⟨ad363,e363,hx363_0⟩:=Kd.at_int HR1.out x13_1 p363 q363
         cases e363
         replace p363:=eq_true p363
         replace q363:=eq_true q363
         go_wp2
         repeat (go_quiet (fail);try go_wp2)
         go_roundg k1
         case measure => have:=HK1.out;omega
         case rel => exact ⟨(wrap64 (x13_1 + 1)),(by first | rfl | (simp;done) | (simp [*];done)),H',⟨by have:=HK1.out;omega⟩,by repeat (first | exact Drawn0.refl _ | apply Drawn0.step)⟩
        ·rw [if_neg c8] at H
         have c8b0 : ((rd l0 x13_1) == (rd l1 x13_1)) = false:=beq_eq_false_iff_ne.mpr c8
         have c8b1 : ((rd l0 x13_1) != (rd l1 x13_1)) = true:=bne_iff_ne.mpr c8
         obtain rfl:=Option.some.inj H
         have p362 : 0 ≤ (x13_1 : Int):=of_decide_eq_true (by first | (with_reducible assumption) | assumption)
         have q362 : x13_1 < (l0.length : Int):=of_decide_eq_true (by first | (with_reducible assumption) | assumption)
         obtain ⟨ad362,e362,hx362_0⟩:=Kd.at_int HR0.out x13_1 p362 q362
         cases e362
         replace p362:=eq_true p362
         replace q362:=eq_true q362
         have p363 : 0 ≤ (x13_1 : Int):=of_decide_eq_true (by first | (with_reducible assumption) | assumption)
         have q363 : x13_1 < (l1.length : Int):=of_decide_eq_true (by first | (with_reducible assumption) | assumption)
         obtain ⟨ad363,e363,hx363_0⟩:=Kd.at_int HR1.out x13_1 p363 q363
         cases e363
         replace p363:=eq_true p363
         replace q363:=eq_true q363
         go_wp2
         repeat (go_quiet (fail);try go_wp2)
         go_ret
         exact ⟨by first | rfl | (simp;done) | (simp [*];done),by repeat (first | exact Drawn0.refl _ | apply Drawn0.step)⟩
       ·rw [if_neg c7] at H
        exact absurd H (by simp)
      ·rw [if_neg c6] at H
       exact absurd H (by simp)
     ·rw [if_neg c5] at H
      exact absurd H (by simp)
    ·rw [if_neg c4] at H
     have c4b0 : decide (x13_1 < (l0.length : Int)) = false:=decide_eq_false c4
     clear c4
     obtain rfl:=Option.some.inj H
     go_wp2
     repeat (go_quiet (fail);try go_wp2)
     go_ret
     exact ⟨by first | rfl | (simp;done) | (simp [*];done),by repeat (first | exact Drawn0.refl _ | apply Drawn0.step)⟩
 ·rw [if_neg c3] at H
  have c3b0 : ((l0.length : Int) == (l1.length : Int)) = false:=beq_eq_false_iff_ne.mpr c3
  have c3b1 : ((l0.length : Int) != (l1.length : Int)) = true:=bne_iff_ne.mpr c3
  have c3b2 : (l0.length == l1.length) = false:=by first | simpa using c3 | (simp at c3 ⊢;omega)
  obtain rfl:=Option.some.inj H
  go_enter Tryd.func11,Tryd.ntmps11
  go_wp2
  repeat (go_quiet (fail);try go_wp2)
  go_ret
  exact ⟨by first | rfl | (simp;done) | (simp [*];done),by repeat (first | exact Drawn0.refl _ | apply Drawn0.step)⟩

def backfilllaw12_among.f (a0 : Int) (a1 : Int) : Option (Int):=if a1 < 1 then (some 0) else (if a1 = 0 then (none) else (if (Int.tmod a0 a1) < 0 then (some (wrap64 ((Int.tmod a0 a1) + a1))) else (some (Int.tmod a0 a1))))
def backfillref04_Of.f (a0 : Int) : Option (Int × Bool):=if a0 < 0 then (some (0,false)) else (if a0 ≥ 4294967296 then (some (18446744073709551615,false)) else (some (IntKind.u64.wrap ((IntKind.u64.wrap (a0)) * 4294967296),true)))
set_option maxHeartbeats 8000000 in
set_option maxRecDepth 100000 in
theorem backfillref04_Of.calls (a0 : Int) (r1 : Int) (r2 : Bool) (w : World) (h : backfillref04_Of.f a0 = some (r1,r2)) :
  Calls Tryd.prog 84 #[.int .i64 a0] w fun e w' => e = .returned (.tuple #[.int .u64 r1,.bool r2]) ∧ Drawn0 w w':=by
 have H : (if a0 < 0 then (some (0,false)) else (if a0 ≥ 4294967296 then (some (18446744073709551615,false)) else (some (IntKind.u64.wrap ((IntKind.u64.wrap (a0)) * 4294967296),true)))) = some (r1,r2):=h
 clear h
 by_cases c2 : a0 < 0
 ·rw [if_pos c2] at H
  have c2b0 : decide (a0 < 0) = true:=decide_eq_true c2
  clear c2
  simp only [Option.some.injEq,Prod.mk.injEq] at H
  obtain ⟨rfl,rfl⟩:=H
  go_enter Tryd.func84,Tryd.ntmps84
  go_wp2
  go_ret2
  exact ⟨by first | rfl | (simp;done) | (simp [*];done),by repeat (first | exact Drawn0.refl _ | apply Drawn0.step)⟩
 ·rw [if_neg c2] at H
  have c2b0 : decide (a0 < 0) = false:=decide_eq_false c2
  clear c2
  by_cases c3 : a0 ≥ 4294967296
  ·rw [if_pos c3] at H
   have c3b0 : decide (4294967296 ≤ a0) = true:=decide_eq_true c3
   clear c3
   simp only [Option.some.injEq,Prod.mk.injEq] at H
   obtain ⟨rfl,rfl⟩:=H
   go_enter Tryd.func84,Tryd.ntmps84
   go_wp2
   go_ret2
   exact ⟨by first | rfl | (simp;done) | (simp [*];done),by repeat (first | exact Drawn0.refl _ | apply Drawn0.step)⟩
  ·rw [if_neg c3] at H
   have c3b0 : decide (4294967296 ≤ a0) = false:=decide_eq_false c3
   clear c3
   simp only [Option.some.injEq,Prod.mk.injEq] at H
   obtain ⟨rfl,rfl⟩:=H
   go_enter Tryd.func84,Tryd.ntmps84
   go_wp2
   go_ret2
   exact ⟨by first | rfl | (simp;done) | (simp [*];done),by repeat (first | exact Drawn0.refl _ | apply Drawn0.step)⟩

def backfillref04_small.f (a0_0 : Int) (a0_1 : Int) : Option (Int × Bool):=if a0_0 > 0 then (some (18446744073709551615,false)) else (some (a0_1,true))
set_option maxHeartbeats 8000000 in
set_option maxRecDepth 100000 in
theorem backfillref04_small.calls (a0_0 : Int) (a0_1 : Int) (r1 : Int) (r2 : Bool) (w : World) (h : backfillref04_small.f a0_0 a0_1 = some (r1,r2)) :
  Calls Tryd.prog 97 #[.agg #[.int .u64 a0_0,.int .u64 a0_1]] w fun e w' => e = .returned (.tuple #[.int .u64 r1,.bool r2]) ∧ Below w.heap.size w w':=by
 have hu94:=Tryd.underlying94
 have HB:=Aside0.mk (Below.refl w.heap.size w)
 have H : (if a0_0 > 0 then (some (18446744073709551615,false)) else (some (a0_1,true))) = some (r1,r2):=h
 clear h
 by_cases c2 : a0_0 > 0
 ·rw [if_pos c2] at H
  have c2b0 : decide (0 < a0_0) = true:=decide_eq_true c2
  clear c2
  simp only [Option.some.injEq,Prod.mk.injEq] at H
  obtain ⟨rfl,rfl⟩:=H
  go_enter Tryd.func97,Tryd.ntmps97
  go_wp2_with (first | ((with_reducible refine gate_dst (N:=1) rfl ?_);refine bxA 1 #[.int .u64 a0_0,.int .u64 a0_1] 94 ?_;intro gb364 hg w3 hbox hb;have n0_:=Aside0.mk (below_step bA hb);have n1_:=Aside0.mk (hbox);have n2_:=Aside0.mk (gwA hg bA);have n3_:=Aside0.mk (gwA hg bA);clear HB;have HB:=n0_;have BK364:=n1_;have GW364:=n2_;have GE364:=n3_;clear n0_ n1_ n2_ n3_ hb hbox hg;have hcz4_0 : w3.cell? ⟨gb364,0,none⟩ = some (.int .u64 a0_0):=(blk_cell BK364.out 0).trans rfl;have hcz4_1 : w3.cell? ⟨gb364,1,none⟩ = some (.int .u64 a0_1):=(blk_cell BK364.out 1).trans rfl;have hfz4_0:=blk_frozen BK364.out 0;have hfz4_1:=blk_frozen BK364.out 1))
  go_ret2
  exact ⟨by first | rfl | (simp [errW_none,errW_some] <;> rfl) | (simp [*,errW_none,errW_some] <;> rfl),bA⟩
 ·rw [if_neg c2] at H
  have c2b0 : decide (0 < a0_0) = false:=decide_eq_false c2
  clear c2
  simp only [Option.some.injEq,Prod.mk.injEq] at H
  obtain ⟨rfl,rfl⟩:=H
  go_enter Tryd.func97,Tryd.ntmps97
  go_wp2_with (first | ((with_reducible refine gate_dst (N:=1) rfl ?_);refine bxA 1 #[.int .u64 a0_0,.int .u64 a0_1] 94 ?_;intro gb364 hg w5 hbox hb;have n0_:=Aside0.mk (below_step bA hb);have n1_:=Aside0.mk (hbox);have n2_:=Aside0.mk (gwA hg bA);have n3_:=Aside0.mk (gwA hg bA);clear HB;have HB:=n0_;have BK364:=n1_;have GW364:=n2_;have GE364:=n3_;clear n0_ n1_ n2_ n3_ hb hbox hg;have hcz6_0 : w5.cell? ⟨gb364,0,none⟩ = some (.int .u64 a0_0):=(blk_cell BK364.out 0).trans rfl;have hcz6_1 : w5.cell? ⟨gb364,1,none⟩ = some (.int .u64 a0_1):=(blk_cell BK364.out 1).trans rfl;have hfz6_0:=blk_frozen BK364.out 0;have hfz6_1:=blk_frozen BK364.out 1))
  go_ret2
  exact ⟨by first | rfl | (simp [errW_none,errW_some] <;> rfl) | (simp [*,errW_none,errW_some] <;> rfl),bA⟩

def backfillref04_Add.f (a0 : Int) (a1 : Int) : Option (Int × Bool):=(backfillref01_Of.f a0).bind fun bt365 => ((backfillref01_Of.f a1).bind fun bt367 => ((backfillref01_Add.f bt365.1 bt365.2 bt367.1 bt367.2).bind fun bt369 => ((backfillref04_small.f bt369.1 bt369.2.1).bind fun bt373 => (some (bt373.1,bt373.2)))))
set_option maxHeartbeats 8000000 in
set_option maxRecDepth 100000 in
theorem backfillref04_Add.calls (a0 : Int) (a1 : Int) (r1 : Int) (r2 : Bool) (w : World) (h : backfillref04_Add.f a0 a1 = some (r1,r2)) :
  Calls Tryd.prog 85 #[.int .u64 a0,.int .u64 a1] w fun e w' => e = .returned (.tuple #[.int .u64 r1,.bool r2]) ∧ Below w.heap.size w w':=by
 have hu94:=Tryd.underlying94
 have HB:=Aside0.mk (Below.refl w.heap.size w)
 have H : ((backfillref01_Of.f a0).bind fun bt365 => ((backfillref01_Of.f a1).bind fun bt367 => ((backfillref01_Add.f bt365.1 bt365.2 bt367.1 bt367.2).bind fun bt369 => ((backfillref04_small.f bt369.1 bt369.2.1).bind fun bt373 => (some (bt373.1,bt373.2)))))) = some (r1,r2):=h
 clear h;replace H:=Option.bind_eq_some_iff.mp H;obtain ⟨⟨t365,t366⟩,A30,H⟩:=H;replace H : ((backfillref01_Of.f a1).bind fun bt367 => ((backfillref01_Add.f t365 t366 bt367.1 bt367.2).bind fun bt369 => ((backfillref04_small.f bt369.1 bt369.2.1).bind fun bt373 => (some (bt373.1,bt373.2))))) = some (r1,r2):=H;have A3:=Aside0.mk A30;clear A30;replace H:=Option.bind_eq_some_iff.mp H;obtain ⟨⟨t367,t368⟩,A40,H⟩:=H;replace H : ((backfillref01_Add.f t365 t366 t367 t368).bind fun bt369 => ((backfillref04_small.f bt369.1 bt369.2.1).bind fun bt373 => (some (bt373.1,bt373.2)))) = some (r1,r2):=H;have A4:=Aside0.mk A40;clear A40;replace H:=Option.bind_eq_some_iff.mp H;obtain ⟨⟨t369,t370,t371⟩,A50,H⟩:=H;replace H : ((backfillref04_small.f t369 t370).bind fun bt373 => (some (bt373.1,bt373.2))) = some (r1,r2):=H;have A5:=Aside0.mk A50;clear A50;replace H:=Option.bind_eq_some_iff.mp H;obtain ⟨⟨t373,t374⟩,A60,H⟩:=H;replace H : (some (t373,t374)) = some (r1,r2):=H;have A6:=Aside0.mk A60;clear A60
 simp only [Option.some.injEq,Prod.mk.injEq] at H
 obtain ⟨rfl,rfl⟩:=H
 go_enter Tryd.func85,Tryd.ntmps85
 go_wp2_with (first | ((with_reducible refine gate_callee (f:=77) rfl ?_);refine goesL_ (some 10) rfl rfl Tryd.func77 (by kernel_rfl) rfl #[.int .u64 a0] rfl aA ?_;(with_reducible refine (backfillref01_Of.calls a0 t365 t366 _ A3.out).mono ?_);rintro e w7 ⟨rfl,hb⟩;refine ⟨_,rfl,?_⟩;have n0_:=Aside0.mk (below_step bA hb);clear HB;have HB:=n0_;clear n0_;(try clear hb)) | ((with_reducible refine gate_callee (f:=77) rfl ?_);refine goesL_ (some 12) rfl rfl Tryd.func77 (by kernel_rfl) rfl #[.int .u64 a1] rfl aA ?_;(with_reducible refine (backfillref01_Of.calls a1 t367 t368 _ A4.out).mono ?_);rintro e w8 ⟨rfl,hb⟩;refine ⟨_,rfl,?_⟩;have n0_:=Aside0.mk (below_step bA hb);clear HB;have HB:=n0_;clear n0_;(try clear hb)) | ((with_reducible refine gate_callee (f:=80) rfl ?_);refine goesL_ (some 13) rfl rfl Tryd.func80 (by kernel_rfl) rfl #[.agg #[.int .u64 t365,.int .u64 t366],.agg #[.int .u64 t367,.int .u64 t368]] rfl aA ?_;(with_reducible refine (backfillref01_Add.calls t365 t366 t367 t368 t369 t370 t371 _ A5.out).mono ?_);rintro e w9 ⟨rfl,hb⟩;refine ⟨_,rfl,?_⟩;have n0_:=Aside0.mk (below_step bA hb);clear HB;have HB:=n0_;clear n0_;(try clear hb)) | ((with_reducible refine gate_dst (N:=6) rfl ?_);refine bxA 6 #[.int .u64 0,.int .u64 0] 94 ?_;intro gb372 hg w10 hbox hb;have n0_:=Aside0.mk (below_step bA hb);have n1_:=Aside0.mk (hbox);have n2_:=Aside0.mk (gwA hg bA);have n3_:=Aside0.mk (gwA hg bA);clear HB;have HB:=n0_;have BK372:=n1_;have GW372:=n2_;have GE372:=n3_;clear n0_ n1_ n2_ n3_ hb hbox hg;have hcz11_0 : w10.cell? ⟨gb372,0,none⟩ = some (.int .u64 0):=(blk_cell BK372.out 0).trans rfl;have hcz11_1 : w10.cell? ⟨gb372,1,none⟩ = some (.int .u64 0):=(blk_cell BK372.out 1).trans rfl;have hfz11_0:=blk_frozen BK372.out 0;have hfz11_1:=blk_frozen BK372.out 1) | ((with_reducible refine gate_callee (f:=97) rfl ?_);refine goesL_ (some 17) rfl rfl Tryd.func97 (by kernel_rfl) rfl #[.agg #[.int .u64 t369,.int .u64 t370]] rfl aA ?_;(with_reducible refine (backfillref04_small.calls t369 t370 t373 t374 _ A6.out).mono ?_);rintro e w12 ⟨rfl,hb⟩;refine ⟨_,rfl,?_⟩;have n0_:=Aside0.mk (blk_below (g:=gb372) (o:=.cells #[.int .u64 t369,.int .u64 t370] 94 (0,0)) (by (with_reducible repeat (first | refine blk_drewN ?_ _ | refine blk_drew ?_ | refine blk_alloc ?_ _));refine blk_put (cs:=#[.int .u64 t369,.int .u64 0]) ?_ 1 _ rfl;(with_reducible repeat (first | refine blk_drewN ?_ _ | refine blk_drew ?_ | refine blk_alloc ?_ _));refine blk_put (cs:=#[.int .u64 0,.int .u64 0]) ?_ 0 _ rfl;exact kA) hb);have n1_:=Aside0.mk (below_step bA hb);clear BK372 HB;have BK372:=n0_;have HB:=n1_;clear n0_ n1_;(try clear hb)))
 go_ret2
 exact ⟨by first | rfl | (simp [errW_none,errW_some] <;> rfl) | (simp [*,errW_none,errW_some] <;> rfl),bA⟩

def backfillref10_Charge.f (a0 : Int) (a1 : Int) : Option (Int):=if a1 < 0 then (some a0) else ((backfillref04_Of.f a1).bind fun bt375 => ((backfillref04_Add.f a0 bt375.1).bind fun bt377 => (some bt377.1)))
set_option maxHeartbeats 8000000 in
set_option maxRecDepth 100000 in
theorem backfillref10_Charge.calls (a0 : Int) (a1 : Int) (r : Int) (w : World) (h : backfillref10_Charge.f a0 a1 = some r) :
  Calls Tryd.prog 60 #[.int .u64 a0,.int .i64 a1] w fun e w' => e = .returned (.int .u64 r) ∧ Below w.heap.size w w':=by
 have HB:=Aside0.mk (Below.refl w.heap.size w)
 have H : (if a1 < 0 then (some a0) else ((backfillref04_Of.f a1).bind fun bt375 => ((backfillref04_Add.f a0 bt375.1).bind fun bt377 => (some bt377.1)))) = some r:=h
 clear h
 by_cases c3 : a1 < 0
 ·rw [if_pos c3] at H
  have c3b0 : decide (a1 < 0) = true:=decide_eq_true c3
  clear c3
  obtain rfl:=Option.some.inj H
  go_enter Tryd.func60,Tryd.ntmps60
  go_wp2
  go_ret
  exact ⟨by first | rfl | (simp [errW_none,errW_some] <;> rfl) | (simp [*,errW_none,errW_some] <;> rfl),bA⟩
 ·rw [if_neg c3] at H
  have c3b0 : decide (a1 < 0) = false:=decide_eq_false c3
  clear c3;replace H:=Option.bind_eq_some_iff.mp H;obtain ⟨⟨t375,t376⟩,A40,H⟩:=H;replace H : ((backfillref04_Add.f a0 t375).bind fun bt377 => (some bt377.1)) = some r:=H;have A4:=Aside0.mk A40;clear A40;replace H:=Option.bind_eq_some_iff.mp H;obtain ⟨⟨t377,t378⟩,A50,H⟩:=H;replace H : (some t377) = some r:=H;have A5:=Aside0.mk A50;clear A50
  obtain rfl:=Option.some.inj H
  go_enter Tryd.func60,Tryd.ntmps60
  go_wp2_with (first | ((with_reducible refine gate_callee (f:=84) rfl ?_);refine goesL_ (some 14) rfl rfl Tryd.func84 (by kernel_rfl) rfl #[.int .i64 a1] rfl aA ?_;(with_reducible refine (backfillref04_Of.calls a1 t375 t376 _ A4.out).mono ?_);rintro e w' ⟨rfl,⟨nd,rfl⟩⟩;refine ⟨_,rfl,?_⟩) | ((with_reducible refine gate_callee (f:=85) rfl ?_);refine goesL_ (some 20) rfl rfl Tryd.func85 (by kernel_rfl) rfl #[.int .u64 a0,.int .u64 t375] rfl aA ?_;(with_reducible refine (backfillref04_Add.calls a0 t375 t377 t378 _ A5.out).mono ?_);rintro e w6 ⟨rfl,hb⟩;refine ⟨_,rfl,?_⟩;have n0_:=Aside0.mk (below_step bA hb);clear HB;have HB:=n0_;clear n0_;(try clear hb)))
  go_ret
  exact ⟨by first | rfl | (simp [errW_none,errW_some] <;> rfl) | (simp [*,errW_none,errW_some] <;> rfl),bA⟩


end Go.Proofs.YtgjjfnjnjnbfgaaDoor.GLG
namespace Go.Proofs.YtgjjfnjnjnbfgaaDoor.GLG
open Go.RowKit Go.Proofs.YtgjjfnjnjnbfgaaDoorW.PrintWords Go.Proofs.YtgjjfnjnjnbfgaaDoorW.PrintLast Go.Proofs.YtgjjfnjnjnbfgaaDoorW.PrintMore
attribute [local go_sem] max2_int min2_int max_two min_two max_three min_three max_four min_four   -- for this text's walks alone
set_option linter.unusedVariables false
set_option linter.unusedSimpArgs false
def backfillref01_Shl.f (a0_0 : Int) (a0_1 : Int) (a1 : Int) : Option (Int × Int):=if a1 < 1 then (some (a0_0,a0_1)) else (if a1 ≥ 128 then (some (0,0)) else (if a1 ≥ 64 then (if 0 ≤ (wrap64 (a1 - 64)) then (some (shl .u64 a0_1 (wrap64 (a1 - 64)),0)) else (none)) else (if 0 ≤ a1 then (if 0 ≤ (wrap64 (64 - a1)) then (some (IntKind.u64.wrap ((shl .u64 a0_0 a1) + (shr .u64 a0_1 (wrap64 (64 - a1)))),shl .u64 a0_1 a1)) else (none)) else (none))))
def backfillref01_Shl.T7 : Bool × List (List Nat × List Nat):=(true,[([],[]),([0],[0]),([],[]),([1,2],[1,2]),([],[]),([4],[4]),([],[]),([6],[6]),([5,7],[5,7]),([3,8],[3,8]),([],[]),([10],[10]),([],[]),([11,12],[11,12]),([9,13],[9,13]),([14,0,1,2,3,4,5,6,7,8,9,10,11,12,13,14],[14])])
def backfillref01_Shl.B7 : List Nat:=[0,1,0,7,0,16,0,64,240,511,0,1024,0,7168,16383,32767]
theorem backfillref01_Shl.tab7 : rtab .any (opsOf Tryd.f102 7) = backfillref01_Shl.T7:=by kernel_rfl
theorem backfillref01_Shl.bits7 : waitsOk backfillref01_Shl.T7.2 backfillref01_Shl.B7 = true:=by kernel_rfl
set_option maxHeartbeats 8000000 in
set_option maxRecDepth 100000 in
theorem backfillref01_Shl.calls (a0_0 : Int) (a0_1 : Int) (a1 : Int) (r1 : Int) (r2 : Int) (w : World) (h : backfillref01_Shl.f a0_0 a0_1 a1 = some (r1,r2)) :
  Calls Tryd.prog 102 #[.agg #[.int .u64 a0_0,.int .u64 a0_1],.int .i64 a1] w fun e w' => e = .returned (.agg #[.int .u64 r1,.int .u64 r2]) ∧ Below w.heap.size w w':=by
 have hu94:=Tryd.underlying94
 have HB:=Aside0.mk (Below.refl w.heap.size w)
 have H : (if a1 < 1 then (some (a0_0,a0_1)) else (if a1 ≥ 128 then (some (0,0)) else (if a1 ≥ 64 then (if 0 ≤ (wrap64 (a1 - 64)) then (some (shl .u64 a0_1 (wrap64 (a1 - 64)),0)) else (none)) else (if 0 ≤ a1 then (if 0 ≤ (wrap64 (64 - a1)) then (some (IntKind.u64.wrap ((shl .u64 a0_0 a1) + (shr .u64 a0_1 (wrap64 (64 - a1)))),shl .u64 a0_1 a1)) else (none)) else (none))))) = some (r1,r2):=h
 clear h
 by_cases c3 : a1 < 1
 ·rw [if_pos c3] at H
  have c3b0 : decide (a1 < 1) = true:=decide_eq_true c3
  clear c3
  simp only [Option.some.injEq,Prod.mk.injEq] at H
  obtain ⟨rfl,rfl⟩:=H
  go_enter Tryd.func102,Tryd.ntmps102
  go_wp2_with (first | ((with_reducible refine gate_dst (N:=2) rfl ?_);refine bxA 2 #[.int .u64 a0_0,.int .u64 a0_1] 94 ?_;intro gb381 hg w4 hbox hb;have n0_:=Aside0.mk (below_step bA hb);have n1_:=Aside0.mk (hbox);have n2_:=Aside0.mk (gwA hg bA);have n3_:=Aside0.mk (gwA hg bA);clear HB;have HB:=n0_;have BK381:=n1_;have GW381:=n2_;have GE381:=n3_;clear n0_ n1_ n2_ n3_ hb hbox hg) | ((with_reducible refine gate_dst (N:=4) rfl ?_);refine bxA 4 #[.int .u64 0,.int .u64 0] 94 ?_;intro gb382 hg w5 hbox hb;have n0_:=Aside0.mk (blk_below (g:=gb381) kA hb);have n1_:=Aside0.mk (below_step bA hb);have n2_:=Aside0.mk (hbox);have n3_:=Aside0.mk (gwA hg bA);have n4_:=Aside0.mk (gwA hg bA);have n5_:=Aside0.mk (neA (g:=gb381) hg kA);have n6_:=Aside0.mk (neB (g:=gb381) hg kA);clear BK381 HB;have BK381:=n0_;have HB:=n1_;have BK382:=n2_;have GW382:=n3_;have GE382:=n4_;have NB381_382:=n5_;have NB382_381:=n6_;clear n0_ n1_ n2_ n3_ n4_ n5_ n6_ hb hbox hg;have hnb6:=NB381_382.out;have hnc6:=NB382_381.out;have hcz7_0 : w5.cell? ⟨gb381,0,none⟩ = some (.int .u64 a0_0):=(blk_cell BK381.out 0).trans rfl;have hcz7_1 : w5.cell? ⟨gb381,1,none⟩ = some (.int .u64 a0_1):=(blk_cell BK381.out 1).trans rfl;have hfz7_0:=blk_frozen BK381.out 0;have hfz7_1:=blk_frozen BK381.out 1;have hcz8_0 : w5.cell? ⟨gb382,0,none⟩ = some (.int .u64 0):=(blk_cell BK382.out 0).trans rfl;have hcz8_1 : w5.cell? ⟨gb382,1,none⟩ = some (.int .u64 0):=(blk_cell BK382.out 1).trans rfl;have hfz8_0:=blk_frozen BK382.out 0;have hfz8_1:=blk_frozen BK382.out 1))
  refine bodyPost_ret (results_cell_row rfl _ _ gb382 94 #[.int .u64 a0_0,.int .u64 a0_1] (0,0) _ rfl (by (with_reducible repeat (first | refine blk_drewN ?_ _ | refine blk_drew ?_ | refine blk_alloc ?_ _));refine blk_put (cs:=#[.int .u64 a0_0,.int .u64 0]) ?_ 1 _ rfl;(with_reducible repeat (first | refine blk_drewN ?_ _ | refine blk_drew ?_ | refine blk_alloc ?_ _));refine blk_put (cs:=#[.int .u64 0,.int .u64 0]) ?_ 0 _ rfl;exact kA) Tryd.underlying94 rfl (by kernel_rfl)) rfl ?_
  exact ⟨by first | rfl | (simp [errW_none,errW_some] <;> rfl) | (simp [*,errW_none,errW_some] <;> rfl),bA⟩
 ·rw [if_neg c3] at H
  have c3b0 : decide (a1 < 1) = false:=decide_eq_false c3
  clear c3
  by_cases c9 : a1 ≥ 128
  ·rw [if_pos c9] at H
   have c9b0 : decide (128 ≤ a1) = true:=decide_eq_true c9
   clear c9
   simp only [Option.some.injEq,Prod.mk.injEq] at H
   obtain ⟨rfl,rfl⟩:=H
   go_enter Tryd.func102,Tryd.ntmps102
   go_wp2_with (first | ((with_reducible refine gate_dst (N:=2) rfl ?_);refine bxA 2 #[.int .u64 a0_0,.int .u64 a0_1] 94 ?_;intro gb381 hg w10 hbox hb;have n0_:=Aside0.mk (below_step bA hb);have n1_:=Aside0.mk (hbox);have n2_:=Aside0.mk (gwA hg bA);have n3_:=Aside0.mk (gwA hg bA);clear HB;have HB:=n0_;have BK381:=n1_;have GW381:=n2_;have GE381:=n3_;clear n0_ n1_ n2_ n3_ hb hbox hg) | ((with_reducible refine gate_dst (N:=4) rfl ?_);refine bxA 4 #[.int .u64 0,.int .u64 0] 94 ?_;intro gb382 hg w11 hbox hb;have n0_:=Aside0.mk (blk_below (g:=gb381) kA hb);have n1_:=Aside0.mk (below_step bA hb);have n2_:=Aside0.mk (hbox);have n3_:=Aside0.mk (gwA hg bA);have n4_:=Aside0.mk (gwA hg bA);have n5_:=Aside0.mk (neA (g:=gb381) hg kA);have n6_:=Aside0.mk (neB (g:=gb381) hg kA);clear BK381 HB;have BK381:=n0_;have HB:=n1_;have BK382:=n2_;have GW382:=n3_;have GE382:=n4_;have NB381_382:=n5_;have NB382_381:=n6_;clear n0_ n1_ n2_ n3_ n4_ n5_ n6_ hb hbox hg;have hnb12:=NB382_381.out;have hnc12:=NB381_382.out;have hcz13_0 : w11.cell? ⟨gb382,0,none⟩ = some (.int .u64 0):=(blk_cell BK382.out 0).trans rfl;have hcz13_1 : w11.cell? ⟨gb382,1,none⟩ = some (.int .u64 0):=(blk_cell BK382.out 1).trans rfl;have hfz13_0:=blk_frozen BK382.out 0;have hfz13_1:=blk_frozen BK382.out 1))
   refine bodyPost_ret (results_cell_row rfl _ _ gb382 94 #[.int .u64 0,.int .u64 0] (0,0) _ rfl (by (with_reducible repeat (first | refine blk_drewN ?_ _ | refine blk_drew ?_ | refine blk_alloc ?_ _));refine blk_put (cs:=#[.int .u64 0,.int .u64 0]) ?_ 1 _ rfl;(with_reducible repeat (first | refine blk_drewN ?_ _ | refine blk_drew ?_ | refine blk_alloc ?_ _));refine blk_put (cs:=#[.int .u64 0,.int .u64 0]) ?_ 0 _ rfl;exact kA) Tryd.underlying94 rfl (by kernel_rfl)) rfl ?_
   exact ⟨by first | rfl | (simp [errW_none,errW_some] <;> rfl) | (simp [*,errW_none,errW_some] <;> rfl),bA⟩
  ·rw [if_neg c9] at H
   have c9b0 : decide (128 ≤ a1) = false:=decide_eq_false c9
   clear c9
   by_cases c14 : a1 ≥ 64
   ·rw [if_pos c14] at H
    have c14b0 : decide (64 ≤ a1) = true:=decide_eq_true c14
    clear c14
    obtain ⟨ji15,hji15⟩ : ∃ j_ : Int,(wrap64 (a1 - 64)) = j_:=⟨_,rfl⟩
    replace H : (if 0 ≤ (ji15) then (some (shl .u64 a0_1 (ji15),0)) else (none)) = some (r1,r2):=by first | (rw [hji15] at H;exact H) | (simp only [hji15] at H ⊢;exact H)
    have hji15w : (IntKind.i64.wrap (a1 - 64)) = ji15:=(i64_w _).trans hji15
    by_cases c16 : 0 ≤ (ji15)
    ·rw [if_pos c16] at H
     have c16b0:=eq_true c16
     have c16b1 : decide (0 ≤ (ji15)) = true:=decide_eq_true c16
     clear c16
     obtain ⟨ji17,hji17⟩ : ∃ j_ : Int,(shl .u64 a0_1 (ji15)) = j_:=⟨_,rfl⟩
     replace H : (some (ji17,0)) = some (r1,r2):=by first | (rw [hji17] at H;exact H) | (simp only [hji17] at H ⊢;exact H)
     have hji17_ : (IntKind.u64.wrap (a0_1 * 2 ^ min (ji15).toNat 64)) = ji17:=hji17
     have hji17z : (ji15) ≤ 64 → (IntKind.u64.wrap (a0_1 * 2 ^ (ji15).toNat)) = ji17:=shl_small hji17
     simp only [Option.some.injEq,Prod.mk.injEq] at H
     obtain ⟨rfl,rfl⟩:=H
     go_enter Tryd.func102,Tryd.ntmps102
     go_wp2_with (first | ((with_reducible refine gate_dst (N:=2) rfl ?_);refine bxA 2 #[.int .u64 a0_0,.int .u64 a0_1] 94 ?_;intro gb381 hg w18 hbox hb;have n0_:=Aside0.mk (below_step bA hb);have n1_:=Aside0.mk (hbox);have n2_:=Aside0.mk (gwA hg bA);have n3_:=Aside0.mk (gwA hg bA);clear HB;have HB:=n0_;have BK381:=n1_;have GW381:=n2_;have GE381:=n3_;clear n0_ n1_ n2_ n3_ hb hbox hg) | ((with_reducible refine gate_dst (N:=4) rfl ?_);refine bxA 4 #[.int .u64 0,.int .u64 0] 94 ?_;intro gb382 hg w19 hbox hb;have n0_:=Aside0.mk (blk_below (g:=gb381) kA hb);have n1_:=Aside0.mk (below_step bA hb);have n2_:=Aside0.mk (hbox);have n3_:=Aside0.mk (gwA hg bA);have n4_:=Aside0.mk (gwA hg bA);have n5_:=Aside0.mk (neA (g:=gb381) hg kA);have n6_:=Aside0.mk (neB (g:=gb381) hg kA);clear BK381 HB;have BK381:=n0_;have HB:=n1_;have BK382:=n2_;have GW382:=n3_;have GE382:=n4_;have NB381_382:=n5_;have NB382_381:=n6_;clear n0_ n1_ n2_ n3_ n4_ n5_ n6_ hb hbox hg;have hnb20:=NB381_382.out;have hnc20:=NB382_381.out;have hcz21_0 : w19.cell? ⟨gb381,0,none⟩ = some (.int .u64 a0_0):=(blk_cell BK381.out 0).trans rfl;have hcz21_1 : w19.cell? ⟨gb381,1,none⟩ = some (.int .u64 a0_1):=(blk_cell BK381.out 1).trans rfl;have hfz21_0:=blk_frozen BK381.out 0;have hfz21_1:=blk_frozen BK381.out 1;have hcz22_0 : w19.cell? ⟨gb382,0,none⟩ = some (.int .u64 0):=(blk_cell BK382.out 0).trans rfl;have hcz22_1 : w19.cell? ⟨gb382,1,none⟩ = some (.int .u64 0):=(blk_cell BK382.out 1).trans rfl;have hfz22_0:=blk_frozen BK382.out 0;have hfz22_1:=blk_frozen BK382.out 1))
     refine bodyPost_ret (results_cell_row rfl _ _ gb382 94 #[.int .u64 ji17,.int .u64 0] (0,0) _ rfl (by (with_reducible repeat (first | refine blk_drewN ?_ _ | refine blk_drew ?_ | refine blk_alloc ?_ _));refine blk_put (cs:=#[.int .u64 ji17,.int .u64 0]) ?_ 1 _ rfl;(with_reducible repeat (first | refine blk_drewN ?_ _ | refine blk_drew ?_ | refine blk_alloc ?_ _));refine blk_put (cs:=#[.int .u64 0,.int .u64 0]) ?_ 0 _ rfl;exact kA) Tryd.underlying94 rfl (by kernel_rfl)) rfl ?_
     exact ⟨by first | rfl | (simp [errW_none,errW_some] <;> rfl) | (simp only [← hji15,← hji17];first | rfl | (simp [errW_none,errW_some] <;> rfl)) | (simp [*,errW_none,errW_some] <;> rfl),bA⟩
    ·rw [if_neg c16] at H
     exact absurd H (by simp)
   ·rw [if_neg c14] at H
    have c14b0 : decide (64 ≤ a1) = false:=decide_eq_false c14
    clear c14
    by_cases c23 : 0 ≤ a1
    ·rw [if_pos c23] at H
     have c23b0:=eq_true c23
     have c23b1 : decide (0 ≤ a1) = true:=decide_eq_true c23
     clear c23
     obtain ⟨ji24,hji24⟩ : ∃ j_ : Int,(shl .u64 a0_0 a1) = j_:=⟨_,rfl⟩
     replace H : (if 0 ≤ (wrap64 (64 - a1)) then (some (IntKind.u64.wrap ((ji24) + (shr .u64 a0_1 (wrap64 (64 - a1)))),shl .u64 a0_1 a1)) else (none)) = some (r1,r2):=by first | (rw [hji24] at H;exact H) | (simp only [hji24] at H ⊢;exact H)
     have hji24_ : (IntKind.u64.wrap (a0_0 * 2 ^ min a1.toNat 64)) = ji24:=hji24
     have hji24z : a1 ≤ 64 → (IntKind.u64.wrap (a0_0 * 2 ^ a1.toNat)) = ji24:=shl_small hji24
     obtain ⟨ji25,hji25⟩ : ∃ j_ : Int,(wrap64 (64 - a1)) = j_:=⟨_,rfl⟩
     replace H : (if 0 ≤ (ji25) then (some (IntKind.u64.wrap ((ji24) + (shr .u64 a0_1 (ji25))),shl .u64 a0_1 a1)) else (none)) = some (r1,r2):=by first | (rw [hji25] at H;exact H) | (simp only [hji25] at H ⊢;exact H)
     have hji25w : (IntKind.i64.wrap (64 - a1)) = ji25:=(i64_w _).trans hji25
     by_cases c26 : 0 ≤ (ji25)
     ·rw [if_pos c26] at H
      have c26b0:=eq_true c26
      have c26b1 : decide (0 ≤ (ji25)) = true:=decide_eq_true c26
      clear c26
      obtain ⟨ji27,hji27⟩ : ∃ j_ : Int,(shr .u64 a0_1 (ji25)) = j_:=⟨_,rfl⟩
      replace H : (some (IntKind.u64.wrap ((ji24) + (ji27)),shl .u64 a0_1 a1)) = some (r1,r2):=by first | (rw [hji27] at H;exact H) | (simp only [hji27] at H ⊢;exact H)
      have hji27_ : (a0_1 / 2 ^ min (ji25).toNat 64) = ji27:=hji27
      have hji27z : (ji25) ≤ 64 → (a0_1 / 2 ^ (ji25).toNat) = ji27:=shr_small hji27
      have c28b0:=eq_true (of_decide_eq_true (by first | (with_reducible assumption) | assumption) : 0 ≤ a1)
      obtain ⟨ji29,hji29⟩ : ∃ j_ : Int,(shl .u64 a0_1 a1) = j_:=⟨_,rfl⟩
      replace H : (some (IntKind.u64.wrap ((ji24) + (ji27)),ji29)) = some (r1,r2):=by first | (rw [hji29] at H;exact H) | (simp only [hji29] at H ⊢;exact H)
      have hji29_ : (IntKind.u64.wrap (a0_1 * 2 ^ min a1.toNat 64)) = ji29:=hji29
      have hji29z : a1 ≤ 64 → (IntKind.u64.wrap (a0_1 * 2 ^ a1.toNat)) = ji29:=shl_small hji29
      simp only [Option.some.injEq,Prod.mk.injEq] at H
      obtain ⟨rfl,rfl⟩:=H
      go_enter Tryd.func102,Tryd.ntmps102
      try go_wp2_with (first | ((with_reducible refine gate_dst (N:=2) rfl ?_);refine bxA 2 #[.int .u64 a0_0,.int .u64 a0_1] 94 ?_;intro gb381 hg w30 hbox hb;have n0_:=Aside0.mk (below_step bA hb);have n1_:=Aside0.mk (hbox);have n2_:=Aside0.mk (gwA hg bA);have n3_:=Aside0.mk (gwA hg bA);clear HB;have HB:=n0_;have BK381:=n1_;have GW381:=n2_;have GE381:=n3_;clear n0_ n1_ n2_ n3_ hb hbox hg) | ((with_reducible refine gate_dst (N:=4) rfl ?_);refine bxA 4 #[.int .u64 0,.int .u64 0] 94 ?_;intro gb382 hg w31 hbox hb;have n0_:=Aside0.mk (blk_below (g:=gb381) kA hb);have n1_:=Aside0.mk (below_step bA hb);have n2_:=Aside0.mk (hbox);have n3_:=Aside0.mk (gwA hg bA);have n4_:=Aside0.mk (gwA hg bA);have n5_:=Aside0.mk (neA (g:=gb381) hg kA);have n6_:=Aside0.mk (neB (g:=gb381) hg kA);clear BK381 HB;have BK381:=n0_;have HB:=n1_;have BK382:=n2_;have GW382:=n3_;have GE382:=n4_;have NB381_382:=n5_;have NB382_381:=n6_;clear n0_ n1_ n2_ n3_ n4_ n5_ n6_ hb hbox hg))
      have n0_:=Aside0.mk (blk_drew BK381.out);have n1_:=Aside0.mk (blk_drew BK382.out);have n2_:=Aside0.mk (below_drew1 HB.out);clear BK381 BK382 HB;have BK381:=n0_;have BK382:=n1_;have HB:=n2_;clear n0_ n1_ n2_
      refine start_ (n:=16) (S:=fun w' => w'.cell? ⟨gb381,0,none⟩ = some (.int .u64 a0_0) ∧ w'.cell? ⟨gb381,1,none⟩ = some (.int .u64 a0_1)) (ds:=[]) #[false,false,false,false,false,false,false,false,false,false,false,false,false,false,false,false] (by kernel_rfl) rfl rfl ⟨(blk_cell BK381.out 0).trans rfl,(blk_cell BK381.out 1).trans rfl⟩ (fun hHeld => ?_);refine with_tabW backfillref01_Shl.tab7 backfillref01_Shl.bits7 (fun HT_ HW_ => ?_)
      generalize w31.drew = w32 at BK381 BK382 HB hHeld ⊢
      refine pure_ (i:=0) (N:=some 19) (v:=?_) (a':=?_) #[true,false,false,false,false,false,false,false,false,false,false,false,false,false,false,false] rfl rfl (any_of HT_.out (by kernel_rfl)) (fun _ _ _ h => h) (Or.inl ⟨by rfl,?_⟩) ?_ ?_
      rotate_left
      ·intro w'
       go_simp;with_reducible rfl
      rotate_left
      ·simp only [Act.put,List.setIfInBounds_toArray,List.set_cons_zero,List.set_cons_succ,i64_w,i32_w]
       rfl
      refine pure_ (i:=2) (N:=some 21) (v:=?_) (a':=?_) #[true,false,true,false,false,false,false,false,false,false,false,false,false,false,false,false] rfl rfl (any_of HT_.out (by kernel_rfl)) (fun _ _ _ h => h) (Or.inl ⟨by rfl,?_⟩) ?_ ?_
      rotate_left
      ·intro w'
       go_simp;with_reducible rfl
      rotate_left
      ·simp only [Act.put,List.setIfInBounds_toArray,List.set_cons_zero,List.set_cons_succ,i64_w,i32_w]
       rfl
      refine pure_ (i:=4) (N:=some 23) (v:=?_) (a':=?_) #[true,false,true,false,true,false,false,false,false,false,false,false,false,false,false,false] rfl rfl (any_of HT_.out (by kernel_rfl)) (fun _ _ _ h => h) (Or.inl ⟨by rfl,?_⟩) ?_ ?_
      rotate_left
      ·intro w'
       go_simp;with_reducible rfl
      rotate_left
      ·simp only [Act.put,List.setIfInBounds_toArray,List.set_cons_zero,List.set_cons_succ,i64_w,i32_w]
       rfl
      refine pure_ (i:=6) (N:=some 25) (v:=?_) (a':=?_) #[true,false,true,false,true,false,true,false,false,false,false,false,false,false,false,false] rfl rfl (any_of HT_.out (by kernel_rfl)) (fun _ _ _ h => h) (Or.inl ⟨by rfl,?_⟩) ?_ ?_
      rotate_left
      ·intro w'
       go_simp;with_reducible rfl
      rotate_left
      ·simp only [Act.put,List.setIfInBounds_toArray,List.set_cons_zero,List.set_cons_succ,i64_w,i32_w]
       rfl
      refine pure_ (i:=7) (N:=some 26) (v:=?_) (a':=?_) #[true,false,true,false,true,false,true,true,false,false,false,false,false,false,false,false] rfl rfl (any_of HT_.out (by kernel_rfl)) (fun _ _ _ h => h) (Or.inl ⟨by rfl,?_⟩) ?_ ?_
      rotate_left
      ·intro w'
       go_simp;with_reducible rfl
      rotate_left
      ·simp only [Act.put,List.setIfInBounds_toArray,List.set_cons_zero,List.set_cons_succ,i64_w,i32_w]
       rfl
      refine pure_ (i:=10) (N:=some 29) (v:=?_) (a':=?_) #[true,false,true,false,true,false,true,true,false,false,true,false,false,false,false,false] rfl rfl (any_of HT_.out (by kernel_rfl)) (fun _ _ _ h => h) (Or.inl ⟨by rfl,?_⟩) ?_ ?_
      rotate_left
      ·intro w'
       go_simp;with_reducible rfl
      rotate_left
      ·simp only [Act.put,List.setIfInBounds_toArray,List.set_cons_zero,List.set_cons_succ,i64_w,i32_w]
       rfl
      refine pure_ (i:=12) (N:=some 31) (v:=?_) (a':=?_) #[true,false,true,false,true,false,true,true,false,false,true,false,true,false,false,false] rfl rfl (any_of HT_.out (by kernel_rfl)) (fun _ _ _ h => h) (Or.inl ⟨by rfl,?_⟩) ?_ ?_
      rotate_left
      ·intro w'
       go_simp;with_reducible rfl
      rotate_left
      ·simp only [Act.put,List.setIfInBounds_toArray,List.set_cons_zero,List.set_cons_succ,i64_w,i32_w]
       rfl
      refine take_ (i:=1) (N:=some 20) (v:=?_) (a':=?_) #[true,true,true,false,true,false,true,true,false,false,true,false,true,false,false,false] rfl rfl (take_ofW HT_.out HW_.out (by kernel_rfl)) (fun _ _ _ h => h) (Or.inl ⟨by rfl,?_⟩) hHeld ?_ ?_
      rotate_left
      ·rintro w' ⟨s0,s1⟩
       go_simp;with_reducible rfl
      rotate_left
      ·simp only [Act.put,List.setIfInBounds_toArray,List.set_cons_zero,List.set_cons_succ,i64_w,i32_w]
       rfl
      refine pure_ (i:=3) (N:=some 22) (v:=?_) (a':=?_) #[true,true,true,true,true,false,true,true,false,false,true,false,true,false,false,false] rfl rfl (any_of HT_.out (by kernel_rfl)) (fun _ _ _ h => h) (Or.inl ⟨by rfl,?_⟩) ?_ ?_
      rotate_left
      ·intro w'
       go_simp;with_reducible rfl
      rotate_left
      ·simp only [Act.put,List.setIfInBounds_toArray,List.set_cons_zero,List.set_cons_succ,i64_w,i32_w]
       rfl
      refine take_ (i:=5) (N:=some 24) (v:=?_) (a':=?_) #[true,true,true,true,true,true,true,true,false,false,true,false,true,false,false,false] rfl rfl (take_ofW HT_.out HW_.out (by kernel_rfl)) (fun _ _ _ h => h) (Or.inl ⟨by rfl,?_⟩) hHeld ?_ ?_
      rotate_left
      ·rintro w' ⟨s0,s1⟩
       go_simp;with_reducible rfl
      rotate_left
      ·simp only [Act.put,List.setIfInBounds_toArray,List.set_cons_zero,List.set_cons_succ,i64_w,i32_w]
       rfl
      refine pure_ (i:=8) (N:=some 27) (v:=?_) (a':=?_) #[true,true,true,true,true,true,true,true,true,false,true,false,true,false,false,false] rfl rfl (any_of HT_.out (by kernel_rfl)) (fun _ _ _ h => h) (Or.inl ⟨by rfl,?_⟩) ?_ ?_
      rotate_left
      ·intro w'
       go_simp;with_reducible rfl
      rotate_left
      ·simp only [Act.put,List.setIfInBounds_toArray,List.set_cons_zero,List.set_cons_succ,i64_w,i32_w]
       rfl
      refine pure_ (i:=9) (N:=some 28) (v:=?_) (a':=?_) #[true,true,true,true,true,true,true,true,true,true,true,false,true,false,false,false] rfl rfl (any_of HT_.out (by kernel_rfl)) (fun _ _ _ h => h) (Or.inl ⟨by rfl,?_⟩) ?_ ?_
      rotate_left
      ·intro w'
       go_simp;with_reducible rfl
      rotate_left
      ·simp only [Act.put,List.setIfInBounds_toArray,List.set_cons_zero,List.set_cons_succ,i64_w,i32_w]
       rfl
      refine take_ (i:=11) (N:=some 30) (v:=?_) (a':=?_) #[true,true,true,true,true,true,true,true,true,true,true,true,true,false,false,false] rfl rfl (take_ofW HT_.out HW_.out (by kernel_rfl)) (fun _ _ _ h => h) (Or.inl ⟨by rfl,?_⟩) hHeld ?_ ?_
      rotate_left
      ·rintro w' ⟨s0,s1⟩
       go_simp;with_reducible rfl
      rotate_left
      ·simp only [Act.put,List.setIfInBounds_toArray,List.set_cons_zero,List.set_cons_succ,i64_w,i32_w]
       rfl
      refine pure_ (i:=13) (N:=some 32) (v:=?_) (a':=?_) #[true,true,true,true,true,true,true,true,true,true,true,true,true,true,false,false] rfl rfl (any_of HT_.out (by kernel_rfl)) (fun _ _ _ h => h) (Or.inl ⟨by rfl,?_⟩) ?_ ?_
      rotate_left
      ·intro w'
       go_simp;with_reducible rfl
      rotate_left
      ·simp only [Act.put,List.setIfInBounds_toArray,List.set_cons_zero,List.set_cons_succ,i64_w,i32_w]
       rfl
      refine pure_ (i:=14) (N:=some 33) (v:=?_) (a':=?_) #[true,true,true,true,true,true,true,true,true,true,true,true,true,true,true,false] rfl rfl (any_of HT_.out (by kernel_rfl)) (fun _ _ _ h => h) (Or.inl ⟨by rfl,?_⟩) ?_ ?_
      rotate_left
      ·intro w'
       go_simp;with_reducible rfl
      rotate_left
      ·simp only [Act.put,List.setIfInBounds_toArray,List.set_cons_zero,List.set_cons_succ,i64_w,i32_w]
       rfl
      refine one_ (i:=15) (N:=none) #[true,true,true,true,true,true,true,true,true,true,true,true,true,true,true,true] rfl rfl (one_of HT_.out (by kernel_rfl)) (by decide) (fun K hK => ?_)
      have hs33 : w32.cell? ⟨gb382,0,none⟩ = some (.int .u64 0):=(blk_cell BK382.out 0).trans rfl
      have hfs33:=blk_frozen BK382.out 0
      have hns33_0:=NB381_382.out
      have hms33_0:=NB382_381.out
      have hs34 : w32.cell? ⟨gb382,1,none⟩ = some (.int .u64 0):=(blk_cell BK382.out 1).trans rfl
      have hfs34:=blk_frozen BK382.out 1
      have hns34_0:=NB381_382.out
      have hms34_0:=NB382_381.out
      refine skip_ (w1:=?_) (by rfl) rfl ?_ ?_
      rotate_left
      ·go_simp
       rfl
      refine hK.out _ _ ⟨((cell_far (p:=⟨gb382,_,none⟩) NB381_382.out _).trans (((cell_far (p:=⟨gb382,_,none⟩) NB381_382.out _).trans (hHeld.1)))),((cell_far (p:=⟨gb382,_,none⟩) NB381_382.out _).trans (((cell_far (p:=⟨gb382,_,none⟩) NB381_382.out _).trans (hHeld.2))))⟩ (fun hHeld => ?_)
      clear hK K
      refine done_ (done_of HT_.out (by kernel_rfl)) ?_
      try go_wp2
      refine bodyPost_ret (results_cell_row rfl _ _ gb382 94 #[.int .u64 (IntKind.u64.wrap ((ji24) + (ji27))),.int .u64 ji29] (0,0) _ rfl (by (with_reducible repeat (first | refine blk_drewN ?_ _ | refine blk_drew ?_ | refine blk_alloc ?_ _));refine blk_put (cs:=#[.int .u64 (IntKind.u64.wrap ((ji24) + (ji27))),.int .u64 0]) ?_ 1 _ rfl;(with_reducible repeat (first | refine blk_drewN ?_ _ | refine blk_drew ?_ | refine blk_alloc ?_ _));refine blk_put (cs:=#[.int .u64 0,.int .u64 0]) ?_ 0 _ rfl;exact kA) Tryd.underlying94 rfl (by kernel_rfl)) rfl ?_
      exact ⟨by first | rfl | (simp [errW_none,errW_some] <;> rfl) | (simp only [← hji24,← hji25,← hji27,← hji29];first | rfl | (simp [errW_none,errW_some] <;> rfl)) | (simp [*,errW_none,errW_some] <;> rfl),bA⟩
     ·rw [if_neg c26] at H
      exact absurd H (by simp)
    ·rw [if_neg c23] at H
     exact absurd H (by simp)

def backfillref01_Div.l0 : Nat → Int → Int → Int → Int → Int → Int → Int → Option (Int × Int × Int × Bool)
 | 0,_,_,_,_,_,_,_ => none
 | k + 1,x1,x8,x9,x384000,x384001,x386000,x386001 => if x9 < 128 then ((backfillref01_Shl.f x384000 x384001 1).bind fun bt386 => ((backfillref01_Shl.f x386000 x386001 1).bind fun bt388 => (if (x8 / 9223372036854775808) = 1 then (backfillref01_Div.l0 k x1 (IntKind.u64.wrap ((IntKind.u64.wrap ((IntKind.u64.wrap (x8 * 2)) + (x384000 / 9223372036854775808))) - x1)) (wrap64 (x9 + 1)) bt386.1 bt386.2 bt388.1 (IntKind.u64.wrap (bt388.2 + 1))) else (if (IntKind.u64.wrap ((IntKind.u64.wrap (x8 * 2)) + (x384000 / 9223372036854775808))) ≥ x1 then (backfillref01_Div.l0 k x1 (IntKind.u64.wrap ((IntKind.u64.wrap ((IntKind.u64.wrap (x8 * 2)) + (x384000 / 9223372036854775808))) - x1)) (wrap64 (x9 + 1)) bt386.1 bt386.2 bt388.1 (IntKind.u64.wrap (bt388.2 + 1))) else (backfillref01_Div.l0 k x1 (IntKind.u64.wrap ((IntKind.u64.wrap (x8 * 2)) + (x384000 / 9223372036854775808))) (wrap64 (x9 + 1)) bt386.1 bt386.2 bt388.1 bt388.2))))) else (some (x386000,x386001,x8,true))
def backfillref01_Div.f (k : Nat) (a0_0 : Int) (a0_1 : Int) (a1 : Int) : Option (Int × Int × Int × Bool):=if a1 = 0 then (some (0,0,0,false)) else (backfillref01_Div.l0 k a1 0 0 a0_0 a0_1 0 0)
theorem backfillref01_Div.mono_l : ∀ k,(∀ y0 y1 y2 y3 y4 y5 y6,LeO (backfillref01_Div.l0 k y0 y1 y2 y3 y4 y5 y6) (backfillref01_Div.l0 (k + 1) y0 y1 y2 y3 y4 y5 y6))
 | 0 => fun _ _ _ _ _ _ _ r h => by simp [backfillref01_Div.l0] at h
 | k + 1 => by
  have ih0:=backfillref01_Div.mono_l k
  ·intro y0 y1 y2 y3 y4 y5 y6
   unfold backfillref01_Div.l0
   repeat' first
   | (with_reducible exact ih0 _ _ _ _ _ _ _)
   | (with_reducible exact LeO.refl _)
   | (with_reducible exact LeO.none _)
   | (with_reducible refine LeO.ite ?_ ?_)
   | (with_reducible refine LeO.bind ?_ (fun _ => ?_))
   | exact ih0 _ _ _ _ _ _ _
   | exact LeO.none _
   | refine LeO.ite ?_ ?_
   | refine LeO.bind ?_ (fun _ => ?_)
theorem backfillref01_Div.mono : ∀ a0 a1 a2 k,LeO (backfillref01_Div.f k a0 a1 a2) (backfillref01_Div.f (k + 1) a0 a1 a2):=by
 intro a0 a1 a2 k
 have ih0:=backfillref01_Div.mono_l k
 unfold backfillref01_Div.f
 repeat' first
   | (with_reducible exact ih0 _ _ _ _ _ _ _)
   | (with_reducible exact LeO.refl _)
   | (with_reducible exact LeO.none _)
   | (with_reducible refine LeO.ite ?_ ?_)
   | (with_reducible refine LeO.bind ?_ (fun _ => ?_))
   | exact ih0 _ _ _ _ _ _ _
   | exact LeO.none _
   | refine LeO.ite ?_ ?_
   | refine LeO.bind ?_ (fun _ => ?_)
set_option maxHeartbeats 8000000 in
set_option maxRecDepth 100000 in
theorem backfillref01_Div.calls (k : Nat) (a0_0 : Int) (a0_1 : Int) (a1 : Int) (r1 : Int) (r2 : Int) (r3 : Int) (r4 : Bool) (w : World) (h : backfillref01_Div.f k a0_0 a0_1 a1 = some (r1,r2,r3,r4)) :
  Calls Tryd.prog 100 #[.agg #[.int .u64 a0_0,.int .u64 a0_1],.int .u64 a1] w fun e w' => e = .returned (.tuple #[.agg #[.int .u64 r1,.int .u64 r2],.int .u64 r3,.bool r4]) ∧ Below w.heap.size w w':=by
 have hu94:=Tryd.underlying94
 have HB:=Aside0.mk (Below.refl w.heap.size w)
 have H : (if a1 = 0 then (some (0,0,0,false)) else (backfillref01_Div.l0 k a1 0 0 a0_0 a0_1 0 0)) = some (r1,r2,r3,r4):=h
 clear h
 by_cases c3 : a1 = 0
 ·rw [if_pos c3] at H
  have c3b0 : (a1 == 0) = true:=beq_iff_eq.mpr c3
  have c3b1 : (a1 != 0) = false:=bne_eq_false_iff_eq.mpr c3
  clear c3
  simp only [Option.some.injEq,Prod.mk.injEq] at H
  obtain ⟨rfl,rfl,rfl,rfl⟩:=H
  go_enter Tryd.func100,Tryd.ntmps100
  go_wp2_with (first | ((with_reducible refine gate_dst (N:=2) rfl ?_);refine bxA 2 #[.int .u64 a0_0,.int .u64 a0_1] 94 ?_;intro gb383 hg w4 hbox hb;have n0_:=Aside0.mk (below_step bA hb);have n1_:=Aside0.mk (hbox);have n2_:=Aside0.mk (gwA hg bA);have n3_:=Aside0.mk (gwA hg bA);clear HB;have HB:=n0_;have BK383:=n1_;have GW383:=n2_;have GE383:=n3_;clear n0_ n1_ n2_ n3_ hb hbox hg) | ((with_reducible refine gate_dst (N:=4) rfl ?_);refine bxA 4 #[.int .u64 0,.int .u64 0] 94 ?_;intro gb384 hg w5 hbox hb;have n0_:=Aside0.mk (blk_below (g:=gb383) kA hb);have n1_:=Aside0.mk (below_step bA hb);have n2_:=Aside0.mk (hbox);have n3_:=Aside0.mk (gwA hg bA);have n4_:=Aside0.mk (gwA hg bA);have n5_:=Aside0.mk (neA (g:=gb383) hg kA);have n6_:=Aside0.mk (neB (g:=gb383) hg kA);clear BK383 HB;have BK383:=n0_;have HB:=n1_;have BK384:=n2_;have GW384:=n3_;have GE384:=n4_;have NB383_384:=n5_;have NB384_383:=n6_;clear n0_ n1_ n2_ n3_ n4_ n5_ n6_ hb hbox hg;have hnb6:=NB384_383.out;have hnc6:=NB383_384.out;have hcz7_0 : w5.cell? ⟨gb384,0,none⟩ = some (.int .u64 0):=(blk_cell BK384.out 0).trans rfl;have hcz7_1 : w5.cell? ⟨gb384,1,none⟩ = some (.int .u64 0):=(blk_cell BK384.out 1).trans rfl;have hfz7_0:=blk_frozen BK384.out 0;have hfz7_1:=blk_frozen BK384.out 1))
  refine bodyPost_ret (results_ctt rfl _ _ gb384 94 #[.int .u64 0,.int .u64 0] (0,0) _ rfl (by (with_reducible repeat (first | refine blk_drewN ?_ _ | refine blk_drew ?_ | refine blk_alloc ?_ _));refine blk_put (cs:=#[.int .u64 0,.int .u64 0]) ?_ 1 _ rfl;(with_reducible repeat (first | refine blk_drewN ?_ _ | refine blk_drew ?_ | refine blk_alloc ?_ _));refine blk_put (cs:=#[.int .u64 0,.int .u64 0]) ?_ 0 _ rfl;exact kA) Tryd.underlying94 rfl (by kernel_rfl)) rfl ?_
  exact ⟨by first | rfl | (simp [errW_none,errW_some] <;> rfl) | (simp [*,errW_none,errW_some] <;> rfl),bA⟩
 ·rw [if_neg c3] at H
  have c3b0 : (a1 == 0) = false:=beq_eq_false_iff_ne.mpr c3
  have c3b1 : (a1 != 0) = true:=bne_iff_ne.mpr c3
  have H':=Aside0.mk H
  clear H
  go_enter Tryd.func100,Tryd.ntmps100
  go_wp2_with (first | ((with_reducible refine gate_dst (N:=2) rfl ?_);refine bxA 2 #[.int .u64 a0_0,.int .u64 a0_1] 94 ?_;intro gb383 hg w8 hbox hb;have n0_:=Aside0.mk (below_step bA hb);have n1_:=Aside0.mk (hbox);have n2_:=Aside0.mk (gwA hg bA);have n3_:=Aside0.mk (gwA hg bA);clear HB;have HB:=n0_;have BK383:=n1_;have GW383:=n2_;have GE383:=n3_;clear n0_ n1_ n2_ n3_ hb hbox hg) | ((with_reducible refine gate_dst (N:=4) rfl ?_);refine bxA 4 #[.int .u64 0,.int .u64 0] 94 ?_;intro gb384 hg w9 hbox hb;have n0_:=Aside0.mk (blk_below (g:=gb383) kA hb);have n1_:=Aside0.mk (below_step bA hb);have n2_:=Aside0.mk (hbox);have n3_:=Aside0.mk (gwA hg bA);have n4_:=Aside0.mk (gwA hg bA);have n5_:=Aside0.mk (neA (g:=gb383) hg kA);have n6_:=Aside0.mk (neB (g:=gb383) hg kA);clear BK383 HB;have BK383:=n0_;have HB:=n1_;have BK384:=n2_;have GW384:=n3_;have GE384:=n4_;have NB383_384:=n5_;have NB384_383:=n6_;clear n0_ n1_ n2_ n3_ n4_ n5_ n6_ hb hbox hg) | ((with_reducible refine gate_dst (N:=7) rfl ?_);refine bxA 7 #[.int .u64 0,.int .u64 0] 94 ?_;intro gb385 hg w10 hbox hb;have n0_:=Aside0.mk (blk_below (g:=gb383) kA hb);have n1_:=Aside0.mk (blk_below (g:=gb384) kA hb);have n2_:=Aside0.mk (below_step bA hb);have n3_:=Aside0.mk (hbox);have n4_:=Aside0.mk (gwA hg bA);have n5_:=Aside0.mk (gwA hg bA);have n6_:=Aside0.mk (neA (g:=gb383) hg kA);have n7_:=Aside0.mk (neB (g:=gb383) hg kA);have n8_:=Aside0.mk (neA (g:=gb384) hg kA);have n9_:=Aside0.mk (neB (g:=gb384) hg kA);clear BK383 BK384 HB;have BK383:=n0_;have BK384:=n1_;have HB:=n2_;have BK385:=n3_;have GW385:=n4_;have GE385:=n5_;have NB383_385:=n6_;have NB385_383:=n7_;have NB384_385:=n8_;have NB385_384:=n9_;clear n0_ n1_ n2_ n3_ n4_ n5_ n6_ n7_ n8_ n9_ hb hbox hg;have hnb11:=NB385_383.out;have hnc11:=NB383_385.out;have hnb12:=NB385_384.out;have hnc12:=NB384_385.out;have hcz13_0 : w10.cell? ⟨gb385,0,none⟩ = some (.int .u64 0):=(blk_cell BK385.out 0).trans rfl;have hcz13_1 : w10.cell? ⟨gb385,1,none⟩ = some (.int .u64 0):=(blk_cell BK385.out 1).trans rfl;have hfz13_0:=blk_frozen BK385.out 0;have hfz13_1:=blk_frozen BK385.out 1))
  go_loopg [8,9] k (fun kq v8 v9 w' => ∃ (x8_1 : Int) (x9_1 : Int) (x384000_1 : Int) (x384001_1 : Int) (x386000_1 : Int) (x386001_1 : Int),v8 = .int .u64 x8_1 ∧ v9 = .int .i64 x9_1 ∧ Aside0 (backfillref01_Div.l0 kq a1 x8_1 x9_1 x384000_1 x384001_1 x386000_1 x386001_1 = some (r1,r2,r3,r4)) ∧ Aside0 (kq ≤ k) ∧ Aside0 (w'.heap[gb383]? = some (.cells #[.int .u64 x384000_1,.int .u64 x384001_1] 94 (0,0))) ∧ Aside0 (w'.heap[gb384]? = some (.cells #[.int .u64 0,.int .u64 0] 94 (0,0))) ∧ Aside0 (w'.heap[gb385]? = some (.cells #[.int .u64 x386000_1,.int .u64 x386001_1] 94 (0,0))) ∧ Aside0 (Below w.heap.size w w'))
  case atStart => exact ⟨(0),(0),(a0_0),(a0_1),(0),(0),(by first | rfl | (simp;done) | (simp [*];done)),(by first | rfl | (simp;done) | (simp [*];done)),H',⟨Nat.le_refl _⟩,⟨by (with_reducible repeat (first | refine blk_drewN ?_ _ | refine blk_drew ?_ | refine blk_alloc ?_ _));refine blk_far ?_ NB383_385.out _;(with_reducible repeat (first | refine blk_drewN ?_ _ | refine blk_drew ?_ | refine blk_alloc ?_ _));refine blk_far ?_ NB383_385.out _;exact kA⟩,⟨by (with_reducible repeat (first | refine blk_drewN ?_ _ | refine blk_drew ?_ | refine blk_alloc ?_ _));refine blk_far ?_ NB384_385.out _;(with_reducible repeat (first | refine blk_drewN ?_ _ | refine blk_drew ?_ | refine blk_alloc ?_ _));refine blk_far ?_ NB384_385.out _;exact kA⟩,⟨by (with_reducible repeat (first | refine blk_drewN ?_ _ | refine blk_drew ?_ | refine blk_alloc ?_ _));refine blk_put (cs:=#[.int .u64 0,.int .u64 0]) ?_ 1 _ rfl;(with_reducible repeat (first | refine blk_drewN ?_ _ | refine blk_drew ?_ | refine blk_alloc ?_ _));refine blk_put (cs:=#[.int .u64 0,.int .u64 0]) ?_ 0 _ rfl;exact kA⟩,⟨bA⟩⟩
  case round =>
   clear H'
   try clear c1
   try clear p2
   try clear c3
   try clear c3b0
   try clear c3b1
   try clear c6
   try clear c10
   try clear c11
   try clear c12
   try clear hcz13_0
   try clear hcz13_1
   try clear hcz7_0
   try clear hcz7_1
   try clear hfz13_0
   try clear hfz13_1
   try clear hfz7_0
   try clear hfz7_1
   obtain ⟨x8_1,x9_1,x384000_1,x384001_1,x386000_1,x386001_1,rfl,rfl,HA,HK1,BK383,BK384,BK385,HB⟩:=hrel
   cases gk with
   | zero => exact absurd HA.out (by simp [backfillref01_Div.l0])
   | succ k1 =>
    have H:=HA.out
    clear HA
    simp only [backfillref01_Div.l0] at H
    by_cases c14 : x9_1 < 128
    ·rw [if_pos c14] at H
     have c14b0 : decide (x9_1 < 128) = true:=decide_eq_true c14
     clear c14;replace H:=Option.bind_eq_some_iff.mp H;obtain ⟨⟨t386,t387⟩,A150,H⟩:=H;replace H : ((backfillref01_Shl.f x386000_1 x386001_1 1).bind fun bt388 => (if (x8_1 / 9223372036854775808) = 1 then (backfillref01_Div.l0 k1 a1 (IntKind.u64.wrap ((IntKind.u64.wrap ((IntKind.u64.wrap (x8_1 * 2)) + (x384000_1 / 9223372036854775808))) - a1)) (wrap64 (x9_1 + 1)) t386 t387 bt388.1 (IntKind.u64.wrap (bt388.2 + 1))) else (if (IntKind.u64.wrap ((IntKind.u64.wrap (x8_1 * 2)) + (x384000_1 / 9223372036854775808))) ≥ a1 then (backfillref01_Div.l0 k1 a1 (IntKind.u64.wrap ((IntKind.u64.wrap ((IntKind.u64.wrap (x8_1 * 2)) + (x384000_1 / 9223372036854775808))) - a1)) (wrap64 (x9_1 + 1)) t386 t387 bt388.1 (IntKind.u64.wrap (bt388.2 + 1))) else (backfillref01_Div.l0 k1 a1 (IntKind.u64.wrap ((IntKind.u64.wrap (x8_1 * 2)) + (x384000_1 / 9223372036854775808))) (wrap64 (x9_1 + 1)) t386 t387 bt388.1 bt388.2)))) = some (r1,r2,r3,r4):=H;have A15:=Aside0.mk A150;clear A150;replace H:=Option.bind_eq_some_iff.mp H;obtain ⟨⟨t388,t389⟩,A160,H⟩:=H;replace H : (if (x8_1 / 9223372036854775808) = 1 then (backfillref01_Div.l0 k1 a1 (IntKind.u64.wrap ((IntKind.u64.wrap ((IntKind.u64.wrap (x8_1 * 2)) + (x384000_1 / 9223372036854775808))) - a1)) (wrap64 (x9_1 + 1)) t386 t387 t388 (IntKind.u64.wrap (t389 + 1))) else (if (IntKind.u64.wrap ((IntKind.u64.wrap (x8_1 * 2)) + (x384000_1 / 9223372036854775808))) ≥ a1 then (backfillref01_Div.l0 k1 a1 (IntKind.u64.wrap ((IntKind.u64.wrap ((IntKind.u64.wrap (x8_1 * 2)) + (x384000_1 / 9223372036854775808))) - a1)) (wrap64 (x9_1 + 1)) t386 t387 t388 (IntKind.u64.wrap (t389 + 1))) else (backfillref01_Div.l0 k1 a1 (IntKind.u64.wrap ((IntKind.u64.wrap (x8_1 * 2)) + (x384000_1 / 9223372036854775808))) (wrap64 (x9_1 + 1)) t386 t387 t388 t389))) = some (r1,r2,r3,r4):=H;have A16:=Aside0.mk A160;clear A160
     by_cases c17 : (x8_1 / 9223372036854775808) = 1
     ·rw [if_pos c17] at H
      have c17b0 : ((x8_1 / 9223372036854775808) == 1) = true:=beq_iff_eq.mpr c17
      have c17b1 : ((x8_1 / 9223372036854775808) != 1) = false:=bne_eq_false_iff_eq.mpr c17
      clear c17
      have H':=Aside0.mk H
      clear H
      have hnb18:=NB383_384.out
      have hnc18:=NB384_383.out
      have hnb19:=NB383_385.out
      have hnc19:=NB385_383.out
      have hcz20_0 : wr.cell? ⟨gb383,0,none⟩ = some (.int .u64 x384000_1):=(blk_cell BK383.out 0).trans rfl
      have hcz20_1 : wr.cell? ⟨gb383,1,none⟩ = some (.int .u64 x384001_1):=(blk_cell BK383.out 1).trans rfl
      have hfz20_0:=blk_frozen BK383.out 0
      have hfz20_1:=blk_frozen BK383.out 1
      go_wp2_with (first | ((with_reducible refine gate_callee (f:=102) rfl ?_);refine goesL_ (some 29) rfl rfl Tryd.func102 (by kernel_rfl) rfl #[.agg #[.int .u64 x384000_1,.int .u64 x384001_1],.int .i64 1] rfl aA ?_;(with_reducible refine (backfillref01_Shl.calls x384000_1 x384001_1 1 t386 t387 _ A15.out).mono ?_);rintro e w21 ⟨rfl,hb⟩;refine ⟨_,rfl,?_⟩;have n0_:=Aside0.mk (blk_below (g:=gb383) kA hb);have n1_:=Aside0.mk (blk_below (g:=gb384) kA hb);have n2_:=Aside0.mk (blk_below (g:=gb385) kA hb);have n3_:=Aside0.mk (below_step bA hb);clear BK383 BK384 BK385 HB;have BK383:=n0_;have BK384:=n1_;have BK385:=n2_;have HB:=n3_;clear n0_ n1_ n2_ n3_;(try clear hb);have hcz22_0 : w21.cell? ⟨gb383,0,none⟩ = some (.int .u64 x384000_1):=(blk_cell BK383.out 0).trans rfl;have hcz22_1 : w21.cell? ⟨gb383,1,none⟩ = some (.int .u64 x384001_1):=(blk_cell BK383.out 1).trans rfl;have hfz22_0:=blk_frozen BK383.out 0;have hfz22_1:=blk_frozen BK383.out 1;have hnb23:=NB385_384.out;have hnc23:=NB384_385.out;have hcz24_0 : w21.cell? ⟨gb385,0,none⟩ = some (.int .u64 x386000_1):=(blk_cell BK385.out 0).trans rfl;have hcz24_1 : w21.cell? ⟨gb385,1,none⟩ = some (.int .u64 x386001_1):=(blk_cell BK385.out 1).trans rfl;have hfz24_0:=blk_frozen BK385.out 0;have hfz24_1:=blk_frozen BK385.out 1) | ((with_reducible refine gate_callee (f:=102) rfl ?_);refine goesL_ (some 31) rfl rfl Tryd.func102 (by kernel_rfl) rfl #[.agg #[.int .u64 x386000_1,.int .u64 x386001_1],.int .i64 1] rfl aA ?_;(with_reducible refine (backfillref01_Shl.calls x386000_1 x386001_1 1 t388 t389 _ A16.out).mono ?_);rintro e w25 ⟨rfl,hb⟩;refine ⟨_,rfl,?_⟩;have n0_:=Aside0.mk (blk_below (g:=gb383) (o:=.cells #[.int .u64 t386,.int .u64 t387] 94 (0,0)) (by (with_reducible repeat (first | refine blk_drewN ?_ _ | refine blk_drew ?_ | refine blk_alloc ?_ _));refine blk_put (cs:=#[.int .u64 t386,.int .u64 x384001_1]) ?_ 1 _ rfl;(with_reducible repeat (first | refine blk_drewN ?_ _ | refine blk_drew ?_ | refine blk_alloc ?_ _));refine blk_put (cs:=#[.int .u64 x384000_1,.int .u64 x384001_1]) ?_ 0 _ rfl;exact kA) hb);have n1_:=Aside0.mk (blk_below (g:=gb384) (o:=.cells #[.int .u64 0,.int .u64 0] 94 (0,0)) (by (with_reducible repeat (first | refine blk_drewN ?_ _ | refine blk_drew ?_ | refine blk_alloc ?_ _));refine blk_far ?_ NB384_383.out _;(with_reducible repeat (first | refine blk_drewN ?_ _ | refine blk_drew ?_ | refine blk_alloc ?_ _));refine blk_far ?_ NB384_383.out _;exact kA) hb);have n2_:=Aside0.mk (blk_below (g:=gb385) (o:=.cells #[.int .u64 x386000_1,.int .u64 x386001_1] 94 (0,0)) (by (with_reducible repeat (first | refine blk_drewN ?_ _ | refine blk_drew ?_ | refine blk_alloc ?_ _));refine blk_far ?_ NB385_383.out _;(with_reducible repeat (first | refine blk_drewN ?_ _ | refine blk_drew ?_ | refine blk_alloc ?_ _));refine blk_far ?_ NB385_383.out _;exact kA) hb);have n3_:=Aside0.mk (below_step bA hb);clear BK383 BK384 BK385 HB;have BK383:=n0_;have BK384:=n1_;have BK385:=n2_;have HB:=n3_;clear n0_ n1_ n2_ n3_;(try clear hb);have hcz26_0 : w25.cell? ⟨gb385,0,none⟩ = some (.int .u64 x386000_1):=(blk_cell BK385.out 0).trans rfl;have hcz26_1 : w25.cell? ⟨gb385,1,none⟩ = some (.int .u64 x386001_1):=(blk_cell BK385.out 1).trans rfl;have hfz26_0:=blk_frozen BK385.out 0;have hfz26_1:=blk_frozen BK385.out 1))
      go_roundg k1
      case measure => have:=HK1.out;omega
      case rel => exact ⟨(IntKind.u64.wrap ((IntKind.u64.wrap ((IntKind.u64.wrap (x8_1 * 2)) + (x384000_1 / 9223372036854775808))) - a1)),(wrap64 (x9_1 + 1)),(t386),(t387),(t388),(IntKind.u64.wrap (t389 + 1)),(by first | rfl | (simp;done) | (simp [*];done)),(by first | rfl | (simp;done) | (simp [*];done)),H',⟨by have:=HK1.out;omega⟩,⟨by (with_reducible repeat (first | refine blk_drewN ?_ _ | refine blk_drew ?_ | refine blk_alloc ?_ _));refine blk_far ?_ NB383_385.out _;(with_reducible repeat (first | refine blk_drewN ?_ _ | refine blk_drew ?_ | refine blk_alloc ?_ _));refine blk_far ?_ NB383_385.out _;(with_reducible repeat (first | refine blk_drewN ?_ _ | refine blk_drew ?_ | refine blk_alloc ?_ _));refine blk_far ?_ NB383_385.out _;exact kA⟩,⟨by (with_reducible repeat (first | refine blk_drewN ?_ _ | refine blk_drew ?_ | refine blk_alloc ?_ _));refine blk_far ?_ NB384_385.out _;(with_reducible repeat (first | refine blk_drewN ?_ _ | refine blk_drew ?_ | refine blk_alloc ?_ _));refine blk_far ?_ NB384_385.out _;(with_reducible repeat (first | refine blk_drewN ?_ _ | refine blk_drew ?_ | refine blk_alloc ?_ _));refine blk_far ?_ NB384_385.out _;exact kA⟩,⟨by (with_reducible repeat (first | refine blk_drewN ?_ _ | refine blk_drew ?_ | refine blk_alloc ?_ _));refine blk_put (cs:=#[.int .u64 t388,.int .u64 t389]) ?_ 1 _ rfl;(with_reducible repeat (first | refine blk_drewN ?_ _ | refine blk_drew ?_ | refine blk_alloc ?_ _));refine blk_put (cs:=#[.int .u64 t388,.int .u64 x386001_1]) ?_ 1 _ rfl;(with_reducible repeat (first | refine blk_drewN ?_ _ | refine blk_drew ?_ | refine blk_alloc ?_ _));refine blk_put (cs:=#[.int .u64 x386000_1,.int .u64 x386001_1]) ?_ 0 _ rfl;exact kA⟩,⟨bA⟩⟩
     ·rw [if_neg c17] at H
      have c17b0 : ((x8_1 / 9223372036854775808) == 1) = false:=beq_eq_false_iff_ne.mpr c17
      have c17b1 : ((x8_1 / 9223372036854775808) != 1) = true:=bne_iff_ne.mpr c17
      by_cases c27 : (IntKind.u64.wrap ((IntKind.u64.wrap (x8_1 * 2)) + (x384000_1 / 9223372036854775808))) ≥ a1
      ·rw [if_pos c27] at H
       have c27b0 : decide (a1 ≤ (IntKind.u64.wrap ((IntKind.u64.wrap (x8_1 * 2)) + (x384000_1 / 9223372036854775808)))) = true:=decide_eq_true c27
       clear c27
       have H':=Aside0.mk H
       clear H
       have hnb28:=NB383_384.out
       have hnc28:=NB384_383.out
       have hnb29:=NB383_385.out
       have hnc29:=NB385_383.out
       have hcz30_0 : wr.cell? ⟨gb383,0,none⟩ = some (.int .u64 x384000_1):=(blk_cell BK383.out 0).trans rfl
       have hcz30_1 : wr.cell? ⟨gb383,1,none⟩ = some (.int .u64 x384001_1):=(blk_cell BK383.out 1).trans rfl
       have hfz30_0:=blk_frozen BK383.out 0
       have hfz30_1:=blk_frozen BK383.out 1
       go_wp2_with (first | ((with_reducible refine gate_callee (f:=102) rfl ?_);refine goesL_ (some 29) rfl rfl Tryd.func102 (by kernel_rfl) rfl #[.agg #[.int .u64 x384000_1,.int .u64 x384001_1],.int .i64 1] rfl aA ?_;(with_reducible refine (backfillref01_Shl.calls x384000_1 x384001_1 1 t386 t387 _ A15.out).mono ?_);rintro e w31 ⟨rfl,hb⟩;refine ⟨_,rfl,?_⟩;have n0_:=Aside0.mk (blk_below (g:=gb383) kA hb);have n1_:=Aside0.mk (blk_below (g:=gb384) kA hb);have n2_:=Aside0.mk (blk_below (g:=gb385) kA hb);have n3_:=Aside0.mk (below_step bA hb);clear BK383 BK384 BK385 HB;have BK383:=n0_;have BK384:=n1_;have BK385:=n2_;have HB:=n3_;clear n0_ n1_ n2_ n3_;(try clear hb);have hcz32_0 : w31.cell? ⟨gb383,0,none⟩ = some (.int .u64 x384000_1):=(blk_cell BK383.out 0).trans rfl;have hcz32_1 : w31.cell? ⟨gb383,1,none⟩ = some (.int .u64 x384001_1):=(blk_cell BK383.out 1).trans rfl;have hfz32_0:=blk_frozen BK383.out 0;have hfz32_1:=blk_frozen BK383.out 1;have hnb33:=NB385_384.out;have hnc33:=NB384_385.out;have hcz34_0 : w31.cell? ⟨gb385,0,none⟩ = some (.int .u64 x386000_1):=(blk_cell BK385.out 0).trans rfl;have hcz34_1 : w31.cell? ⟨gb385,1,none⟩ = some (.int .u64 x386001_1):=(blk_cell BK385.out 1).trans rfl;have hfz34_0:=blk_frozen BK385.out 0;have hfz34_1:=blk_frozen BK385.out 1) | ((with_reducible refine gate_callee (f:=102) rfl ?_);refine goesL_ (some 31) rfl rfl Tryd.func102 (by kernel_rfl) rfl #[.agg #[.int .u64 x386000_1,.int .u64 x386001_1],.int .i64 1] rfl aA ?_;(with_reducible refine (backfillref01_Shl.calls x386000_1 x386001_1 1 t388 t389 _ A16.out).mono ?_);rintro e w35 ⟨rfl,hb⟩;refine ⟨_,rfl,?_⟩;have n0_:=Aside0.mk (blk_below (g:=gb383) (o:=.cells #[.int .u64 t386,.int .u64 t387] 94 (0,0)) (by (with_reducible repeat (first | refine blk_drewN ?_ _ | refine blk_drew ?_ | refine blk_alloc ?_ _));refine blk_put (cs:=#[.int .u64 t386,.int .u64 x384001_1]) ?_ 1 _ rfl;(with_reducible repeat (first | refine blk_drewN ?_ _ | refine blk_drew ?_ | refine blk_alloc ?_ _));refine blk_put (cs:=#[.int .u64 x384000_1,.int .u64 x384001_1]) ?_ 0 _ rfl;exact kA) hb);have n1_:=Aside0.mk (blk_below (g:=gb384) (o:=.cells #[.int .u64 0,.int .u64 0] 94 (0,0)) (by (with_reducible repeat (first | refine blk_drewN ?_ _ | refine blk_drew ?_ | refine blk_alloc ?_ _));refine blk_far ?_ NB384_383.out _;(with_reducible repeat (first | refine blk_drewN ?_ _ | refine blk_drew ?_ | refine blk_alloc ?_ _));refine blk_far ?_ NB384_383.out _;exact kA) hb);have n2_:=Aside0.mk (blk_below (g:=gb385) (o:=.cells #[.int .u64 x386000_1,.int .u64 x386001_1] 94 (0,0)) (by (with_reducible repeat (first | refine blk_drewN ?_ _ | refine blk_drew ?_ | refine blk_alloc ?_ _));refine blk_far ?_ NB385_383.out _;(with_reducible repeat (first | refine blk_drewN ?_ _ | refine blk_drew ?_ | refine blk_alloc ?_ _));refine blk_far ?_ NB385_383.out _;exact kA) hb);have n3_:=Aside0.mk (below_step bA hb);clear BK383 BK384 BK385 HB;have BK383:=n0_;have BK384:=n1_;have BK385:=n2_;have HB:=n3_;clear n0_ n1_ n2_ n3_;(try clear hb);have hcz36_0 : w35.cell? ⟨gb385,0,none⟩ = some (.int .u64 x386000_1):=(blk_cell BK385.out 0).trans rfl;have hcz36_1 : w35.cell? ⟨gb385,1,none⟩ = some (.int .u64 x386001_1):=(blk_cell BK385.out 1).trans rfl;have hfz36_0:=blk_frozen BK385.out 0;have hfz36_1:=blk_frozen BK385.out 1))
       go_roundg k1
       case measure => have:=HK1.out;omega
       case rel => exact ⟨(IntKind.u64.wrap ((IntKind.u64.wrap ((IntKind.u64.wrap (x8_1 * 2)) + (x384000_1 / 9223372036854775808))) - a1)),(wrap64 (x9_1 + 1)),(t386),(t387),(t388),(IntKind.u64.wrap (t389 + 1)),(by first | rfl | (simp;done) | (simp [*];done)),(by first | rfl | (simp;done) | (simp [*];done)),H',⟨by have:=HK1.out;omega⟩,⟨by (with_reducible repeat (first | refine blk_drewN ?_ _ | refine blk_drew ?_ | refine blk_alloc ?_ _));refine blk_far ?_ NB383_385.out _;(with_reducible repeat (first | refine blk_drewN ?_ _ | refine blk_drew ?_ | refine blk_alloc ?_ _));refine blk_far ?_ NB383_385.out _;(with_reducible repeat (first | refine blk_drewN ?_ _ | refine blk_drew ?_ | refine blk_alloc ?_ _));refine blk_far ?_ NB383_385.out _;exact kA⟩,⟨by (with_reducible repeat (first | refine blk_drewN ?_ _ | refine blk_drew ?_ | refine blk_alloc ?_ _));refine blk_far ?_ NB384_385.out _;(with_reducible repeat (first | refine blk_drewN ?_ _ | refine blk_drew ?_ | refine blk_alloc ?_ _));refine blk_far ?_ NB384_385.out _;(with_reducible repeat (first | refine blk_drewN ?_ _ | refine blk_drew ?_ | refine blk_alloc ?_ _));refine blk_far ?_ NB384_385.out _;exact kA⟩,⟨by (with_reducible repeat (first | refine blk_drewN ?_ _ | refine blk_drew ?_ | refine blk_alloc ?_ _));refine blk_put (cs:=#[.int .u64 t388,.int .u64 t389]) ?_ 1 _ rfl;(with_reducible repeat (first | refine blk_drewN ?_ _ | refine blk_drew ?_ | refine blk_alloc ?_ _));refine blk_put (cs:=#[.int .u64 t388,.int .u64 x386001_1]) ?_ 1 _ rfl;(with_reducible repeat (first | refine blk_drewN ?_ _ | refine blk_drew ?_ | refine blk_alloc ?_ _));refine blk_put (cs:=#[.int .u64 x386000_1,.int .u64 x386001_1]) ?_ 0 _ rfl;exact kA⟩,⟨bA⟩⟩
      ·rw [if_neg c27] at H
       have c27b0 : decide (a1 ≤ (IntKind.u64.wrap ((IntKind.u64.wrap (x8_1 * 2)) + (x384000_1 / 9223372036854775808)))) = false:=decide_eq_false c27
       clear c27
       have H':=Aside0.mk H
       clear H
       have hnb37:=NB383_384.out
       have hnc37:=NB384_383.out
       have hnb38:=NB383_385.out
       have hnc38:=NB385_383.out
       have hcz39_0 : wr.cell? ⟨gb383,0,none⟩ = some (.int .u64 x384000_1):=(blk_cell BK383.out 0).trans rfl
       have hcz39_1 : wr.cell? ⟨gb383,1,none⟩ = some (.int .u64 x384001_1):=(blk_cell BK383.out 1).trans rfl
       have hfz39_0:=blk_frozen BK383.out 0
       have hfz39_1:=blk_frozen BK383.out 1
       go_wp2_with (first | ((with_reducible refine gate_callee (f:=102) rfl ?_);refine goesL_ (some 29) rfl rfl Tryd.func102 (by kernel_rfl) rfl #[.agg #[.int .u64 x384000_1,.int .u64 x384001_1],.int .i64 1] rfl aA ?_;(with_reducible refine (backfillref01_Shl.calls x384000_1 x384001_1 1 t386 t387 _ A15.out).mono ?_);rintro e w40 ⟨rfl,hb⟩;refine ⟨_,rfl,?_⟩;have n0_:=Aside0.mk (blk_below (g:=gb383) kA hb);have n1_:=Aside0.mk (blk_below (g:=gb384) kA hb);have n2_:=Aside0.mk (blk_below (g:=gb385) kA hb);have n3_:=Aside0.mk (below_step bA hb);clear BK383 BK384 BK385 HB;have BK383:=n0_;have BK384:=n1_;have BK385:=n2_;have HB:=n3_;clear n0_ n1_ n2_ n3_;(try clear hb);have hcz41_0 : w40.cell? ⟨gb383,0,none⟩ = some (.int .u64 x384000_1):=(blk_cell BK383.out 0).trans rfl;have hcz41_1 : w40.cell? ⟨gb383,1,none⟩ = some (.int .u64 x384001_1):=(blk_cell BK383.out 1).trans rfl;have hfz41_0:=blk_frozen BK383.out 0;have hfz41_1:=blk_frozen BK383.out 1;have hnb42:=NB385_384.out;have hnc42:=NB384_385.out;have hcz43_0 : w40.cell? ⟨gb385,0,none⟩ = some (.int .u64 x386000_1):=(blk_cell BK385.out 0).trans rfl;have hcz43_1 : w40.cell? ⟨gb385,1,none⟩ = some (.int .u64 x386001_1):=(blk_cell BK385.out 1).trans rfl;have hfz43_0:=blk_frozen BK385.out 0;have hfz43_1:=blk_frozen BK385.out 1) | ((with_reducible refine gate_callee (f:=102) rfl ?_);refine goesL_ (some 31) rfl rfl Tryd.func102 (by kernel_rfl) rfl #[.agg #[.int .u64 x386000_1,.int .u64 x386001_1],.int .i64 1] rfl aA ?_;(with_reducible refine (backfillref01_Shl.calls x386000_1 x386001_1 1 t388 t389 _ A16.out).mono ?_);rintro e w44 ⟨rfl,hb⟩;refine ⟨_,rfl,?_⟩;have n0_:=Aside0.mk (blk_below (g:=gb383) (o:=.cells #[.int .u64 t386,.int .u64 t387] 94 (0,0)) (by (with_reducible repeat (first | refine blk_drewN ?_ _ | refine blk_drew ?_ | refine blk_alloc ?_ _));refine blk_put (cs:=#[.int .u64 t386,.int .u64 x384001_1]) ?_ 1 _ rfl;(with_reducible repeat (first | refine blk_drewN ?_ _ | refine blk_drew ?_ | refine blk_alloc ?_ _));refine blk_put (cs:=#[.int .u64 x384000_1,.int .u64 x384001_1]) ?_ 0 _ rfl;exact kA) hb);have n1_:=Aside0.mk (blk_below (g:=gb384) (o:=.cells #[.int .u64 0,.int .u64 0] 94 (0,0)) (by (with_reducible repeat (first | refine blk_drewN ?_ _ | refine blk_drew ?_ | refine blk_alloc ?_ _));refine blk_far ?_ NB384_383.out _;(with_reducible repeat (first | refine blk_drewN ?_ _ | refine blk_drew ?_ | refine blk_alloc ?_ _));refine blk_far ?_ NB384_383.out _;exact kA) hb);have n2_:=Aside0.mk (blk_below (g:=gb385) (o:=.cells #[.int .u64 x386000_1,.int .u64 x386001_1] 94 (0,0)) (by (with_reducible repeat (first | refine blk_drewN ?_ _ | refine blk_drew ?_ | refine blk_alloc ?_ _));refine blk_far ?_ NB385_383.out _;(with_reducible repeat (first | refine blk_drewN ?_ _ | refine blk_drew ?_ | refine blk_alloc ?_ _));refine blk_far ?_ NB385_383.out _;exact kA) hb);have n3_:=Aside0.mk (below_step bA hb);clear BK383 BK384 BK385 HB;have BK383:=n0_;have BK384:=n1_;have BK385:=n2_;have HB:=n3_;clear n0_ n1_ n2_ n3_;(try clear hb);have hcz45_0 : w44.cell? ⟨gb385,0,none⟩ = some (.int .u64 x386000_1):=(blk_cell BK385.out 0).trans rfl;have hcz45_1 : w44.cell? ⟨gb385,1,none⟩ = some (.int .u64 x386001_1):=(blk_cell BK385.out 1).trans rfl;have hfz45_0:=blk_frozen BK385.out 0;have hfz45_1:=blk_frozen BK385.out 1))
       go_roundg k1
       case measure => have:=HK1.out;omega
       case rel => exact ⟨(IntKind.u64.wrap ((IntKind.u64.wrap (x8_1 * 2)) + (x384000_1 / 9223372036854775808))),(wrap64 (x9_1 + 1)),(t386),(t387),(t388),(t389),(by first | rfl | (simp;done) | (simp [*];done)),(by first | rfl | (simp;done) | (simp [*];done)),H',⟨by have:=HK1.out;omega⟩,⟨by (with_reducible repeat (first | refine blk_drewN ?_ _ | refine blk_drew ?_ | refine blk_alloc ?_ _));refine blk_far ?_ NB383_385.out _;(with_reducible repeat (first | refine blk_drewN ?_ _ | refine blk_drew ?_ | refine blk_alloc ?_ _));refine blk_far ?_ NB383_385.out _;exact kA⟩,⟨by (with_reducible repeat (first | refine blk_drewN ?_ _ | refine blk_drew ?_ | refine blk_alloc ?_ _));refine blk_far ?_ NB384_385.out _;(with_reducible repeat (first | refine blk_drewN ?_ _ | refine blk_drew ?_ | refine blk_alloc ?_ _));refine blk_far ?_ NB384_385.out _;exact kA⟩,⟨by (with_reducible repeat (first | refine blk_drewN ?_ _ | refine blk_drew ?_ | refine blk_alloc ?_ _));refine blk_put (cs:=#[.int .u64 t388,.int .u64 x386001_1]) ?_ 1 _ rfl;(with_reducible repeat (first | refine blk_drewN ?_ _ | refine blk_drew ?_ | refine blk_alloc ?_ _));refine blk_put (cs:=#[.int .u64 x386000_1,.int .u64 x386001_1]) ?_ 0 _ rfl;exact kA⟩,⟨bA⟩⟩
    ·rw [if_neg c14] at H
     have c14b0 : decide (x9_1 < 128) = false:=decide_eq_false c14
     clear c14
     simp only [Option.some.injEq,Prod.mk.injEq] at H
     obtain ⟨rfl,rfl,rfl,rfl⟩:=H
     have hnb46:=NB385_383.out
     have hnc46:=NB383_385.out
     have hnb47:=NB385_384.out
     have hnc47:=NB384_385.out
     have hcz48_0 : wr.cell? ⟨gb385,0,none⟩ = some (.int .u64 x386000_1):=(blk_cell BK385.out 0).trans rfl
     have hcz48_1 : wr.cell? ⟨gb385,1,none⟩ = some (.int .u64 x386001_1):=(blk_cell BK385.out 1).trans rfl
     have hfz48_0:=blk_frozen BK385.out 0
     have hfz48_1:=blk_frozen BK385.out 1
     have hnb49:=NB384_383.out
     have hnc49:=NB383_384.out
     have hcz50_0 : wr.cell? ⟨gb384,0,none⟩ = some (.int .u64 0):=(blk_cell BK384.out 0).trans rfl
     have hcz50_1 : wr.cell? ⟨gb384,1,none⟩ = some (.int .u64 0):=(blk_cell BK384.out 1).trans rfl
     have hfz50_0:=blk_frozen BK384.out 0
     have hfz50_1:=blk_frozen BK384.out 1
     go_wp2
     refine bodyPost_ret (results_ctt rfl _ _ gb384 94 #[.int .u64 x386000_1,.int .u64 x386001_1] (0,0) _ rfl (by (with_reducible repeat (first | refine blk_drewN ?_ _ | refine blk_drew ?_ | refine blk_alloc ?_ _));refine blk_put (cs:=#[.int .u64 x386000_1,.int .u64 0]) ?_ 1 _ rfl;(with_reducible repeat (first | refine blk_drewN ?_ _ | refine blk_drew ?_ | refine blk_alloc ?_ _));refine blk_put (cs:=#[.int .u64 0,.int .u64 0]) ?_ 0 _ rfl;exact kA) Tryd.underlying94 rfl (by kernel_rfl)) rfl ?_
     exact ⟨by first | rfl | (simp [errW_none,errW_some] <;> rfl) | (simp [*,errW_none,errW_some] <;> rfl),bA⟩

def backfillref04_up.f (a0_0 : Int) (a0_1 : Int) : Option (Int × Int):=(backfillref01_Of.f 1).bind fun bt392 => ((backfillref01_Add.f a0_0 a0_1 bt392.1 bt392.2).bind fun bt394 => (some (bt394.1,bt394.2.1)))
def backfillref04_up.T1 : Bool × List (List Nat × List Nat):=(true,[([],[]),([],[]),([0,1,1],[0,1]),([2],[2]),([3],[3]),([3],[3]),([],[]),([6,4,2,0,1,2,3,4,6],[4,6]),([5,7,0,1,2,3,4,5,6,7],[5])])
def backfillref04_up.B1 : List Nat:=[0,0,3,7,15,15,0,95,255]
theorem backfillref04_up.tab1 : rtab .any (opsOf Tryd.f101 1) = backfillref04_up.T1:=by kernel_rfl
theorem backfillref04_up.bits1 : waitsOk backfillref04_up.T1.2 backfillref04_up.B1 = true:=by kernel_rfl
set_option maxHeartbeats 8000000 in
set_option maxRecDepth 100000 in
theorem backfillref04_up.calls (a0_0 : Int) (a0_1 : Int) (r1 : Int) (r2 : Int) (w : World) (h : backfillref04_up.f a0_0 a0_1 = some (r1,r2)) :
  Calls Tryd.prog 101 #[.agg #[.int .u64 a0_0,.int .u64 a0_1]] w fun e w' => e = .returned (.agg #[.int .u64 r1,.int .u64 r2]) ∧ Below w.heap.size w w':=by
 have hu94:=Tryd.underlying94
 have HB:=Aside0.mk (Below.refl w.heap.size w)
 have H : ((backfillref01_Of.f 1).bind fun bt392 => ((backfillref01_Add.f a0_0 a0_1 bt392.1 bt392.2).bind fun bt394 => (some (bt394.1,bt394.2.1)))) = some (r1,r2):=h
 clear h;replace H:=Option.bind_eq_some_iff.mp H;obtain ⟨⟨t392,t393⟩,A20,H⟩:=H;replace H : ((backfillref01_Add.f a0_0 a0_1 t392 t393).bind fun bt394 => (some (bt394.1,bt394.2.1))) = some (r1,r2):=H;have A2:=Aside0.mk A20;clear A20;replace H:=Option.bind_eq_some_iff.mp H;obtain ⟨⟨t394,t395,t396⟩,A30,H⟩:=H;replace H : (some (t394,t395)) = some (r1,r2):=H;have A3:=Aside0.mk A30;clear A30
 simp only [Option.some.injEq,Prod.mk.injEq] at H
 obtain ⟨rfl,rfl⟩:=H
 go_enter Tryd.func101,Tryd.ntmps101
 try go_wp2_with (first | ((with_reducible refine gate_dst (N:=1) rfl ?_);refine bxA 1 #[.int .u64 a0_0,.int .u64 a0_1] 94 ?_;intro gb390 hg w4 hbox hb;have n0_:=Aside0.mk (below_step bA hb);have n1_:=Aside0.mk (hbox);have n2_:=Aside0.mk (gwA hg bA);have n3_:=Aside0.mk (gwA hg bA);clear HB;have HB:=n0_;have BK390:=n1_;have GW390:=n2_;have GE390:=n3_;clear n0_ n1_ n2_ n3_ hb hbox hg) | ((with_reducible refine gate_dst (N:=2) rfl ?_);refine bxA 2 #[.int .u64 0,.int .u64 0] 94 ?_;intro gb391 hg w5 hbox hb;have n0_:=Aside0.mk (blk_below (g:=gb390) kA hb);have n1_:=Aside0.mk (below_step bA hb);have n2_:=Aside0.mk (hbox);have n3_:=Aside0.mk (gwA hg bA);have n4_:=Aside0.mk (gwA hg bA);have n5_:=Aside0.mk (neA (g:=gb390) hg kA);have n6_:=Aside0.mk (neB (g:=gb390) hg kA);clear BK390 HB;have BK390:=n0_;have HB:=n1_;have BK391:=n2_;have GW391:=n3_;have GE391:=n4_;have NB390_391:=n5_;have NB391_390:=n6_;clear n0_ n1_ n2_ n3_ n4_ n5_ n6_ hb hbox hg))
 have n0_:=Aside0.mk (blk_drew BK390.out);have n1_:=Aside0.mk (blk_drew BK391.out);have n2_:=Aside0.mk (below_drew1 HB.out);clear BK390 BK391 HB;have BK390:=n0_;have BK391:=n1_;have HB:=n2_;clear n0_ n1_ n2_
 refine start_ (n:=9) (S:=fun w' => w'.cell? ⟨gb390,0,none⟩ = some (.int .u64 a0_0) ∧ w'.cell? ⟨gb390,1,none⟩ = some (.int .u64 a0_1)) (ds:=[]) #[false,false,false,false,false,false,false,false,false] (by kernel_rfl) rfl rfl ⟨(blk_cell BK390.out 0).trans rfl,(blk_cell BK390.out 1).trans rfl⟩ (fun hHeld => ?_);refine with_tabW backfillref04_up.tab1 backfillref04_up.bits1 (fun HT_ HW_ => ?_)
 generalize w5.drew = w6 at BK390 BK391 HB hHeld ⊢
 refine take_ (i:=0) (N:=some 6) (v:=?_) (a':=?_) #[true,false,false,false,false,false,false,false,false] rfl rfl (take_ofW HT_.out HW_.out (by kernel_rfl)) (fun _ _ _ h => h) (Or.inl ⟨by rfl,?_⟩) hHeld ?_ ?_
 rotate_left
 ·rintro w' ⟨s0,s1⟩
  go_simp;with_reducible rfl
 rotate_left
 ·simp only [Act.put,List.setIfInBounds_toArray,List.set_cons_zero,List.set_cons_succ,i64_w,i32_w]
  rfl
 refine join_ (σ:=Nat) 2 #[true,true,true,true,true,true,true,false,false] (fun s_ => [(7,.agg #[.int .u64 t392,.int .u64 t393]),(8,.tuple #[.agg #[.int .u64 t394,.int .u64 t395],.bool t396]),(3,.pointer (some ⟨s_,0,none⟩)),(5,.tuple #[.agg #[.int .u64 t394,.int .u64 t395],.bool t396]),(9,.agg #[.int .u64 t394,.int .u64 t395]),(10,.bool t396)]) (fun s_ w' => (w'.cell? ⟨gb390,0,none⟩ = some (.int .u64 a0_0) ∧ w'.cell? ⟨gb390,1,none⟩ = some (.int .u64 a0_1)) ∧ (w'.heap[gb390]? = some (.cells #[.int .u64 a0_0,.int .u64 a0_1] 94 (0,0))) ∧ (w'.heap[gb391]? = some (.cells #[.int .u64 0,.int .u64 0] 94 (0,0))) ∧ (w'.heap[s_]? = some (.cells #[.int .u64 0,.int .u64 0] 94 (0,0))) ∧ (w.heap.size ≤ s_) ∧ (w.heap.size ≤ s_) ∧ (gb390 ≠ s_) ∧ (s_ ≠ gb390) ∧ (gb391 ≠ s_) ∧ (s_ ≠ gb391) ∧ (Below w.heap.size w w')) ?_ ?_
 rotate_left
 ·intro hCont
  refine two_ (i:=1) (j:=6) (Ni:=some 7) (Nj:=some 3) #[true,true,false,false,false,false,false,false,false] #[true,false,false,false,false,false,true,false,false] rfl rfl rfl rfl (two_of HT_.out (by kernel_rfl)) (by decide) (by decide) (fun K hK => ?_) (fun K hK => ?_)
  ·skip
   refine goes_ Tryd.func77 (by kernel_rfl) rfl #[.int .u64 1] (by rfl) rfl rfl aA ?_
   with_reducible refine (backfillref01_Of.calls 1 t392 t393 _ A2.out).mono ?_
   rintro e w7 ⟨rfl,hb⟩
   refine ⟨_,rfl,?_⟩;have n0_:=Aside0.mk (blk_below (g:=gb390) kA hb);have n1_:=Aside0.mk (blk_below (g:=gb391) kA hb);have n2_:=Aside0.mk (below_step bA hb);clear BK390 BK391 HB;have BK390:=n0_;have BK391:=n1_;have HB:=n2_;clear n0_ n1_ n2_;(try clear hb)
   refine hK.out _ _ ⟨(blk_cell BK390.out 0).trans rfl,(blk_cell BK390.out 1).trans rfl⟩ (fun hHeld => ?_)
   clear hK K
   refine norm_ (a':=?_) ?_ ?_
   rotate_left
   ·show Act.put _ (some 7) _ = _
    simp only [Act.put,List.setIfInBounds_toArray,List.set_cons_zero,List.set_cons_succ,i64_w,i32_w]
    rfl
   refine two_ (i:=2) (j:=6) (Ni:=some 8) (Nj:=some 3) #[true,true,true,false,false,false,false,false,false] #[true,true,false,false,false,false,true,false,false] rfl rfl rfl rfl (two_of HT_.out (by kernel_rfl)) (by decide) (by decide) (fun K hK => ?_) (fun K hK => ?_)
   ·skip
    refine goes_ Tryd.func80 (by kernel_rfl) rfl #[.agg #[.int .u64 a0_0,.int .u64 a0_1],.agg #[.int .u64 t392,.int .u64 t393]] (by rfl) rfl rfl aA ?_
    with_reducible refine (backfillref01_Add.calls a0_0 a0_1 t392 t393 t394 t395 t396 _ A3.out).mono ?_
    rintro e w8 ⟨rfl,hb⟩
    refine ⟨_,rfl,?_⟩;have n0_:=Aside0.mk (blk_below (g:=gb390) kA hb);have n1_:=Aside0.mk (blk_below (g:=gb391) kA hb);have n2_:=Aside0.mk (below_step bA hb);clear BK390 BK391 HB;have BK390:=n0_;have BK391:=n1_;have HB:=n2_;clear n0_ n1_ n2_;(try clear hb)
    refine hK.out _ _ ⟨(blk_cell BK390.out 0).trans rfl,(blk_cell BK390.out 1).trans rfl⟩ (fun hHeld => ?_)
    clear hK K
    refine norm_ (a':=?_) ?_ ?_
    rotate_left
    ·show Act.put _ (some 8) _ = _
     simp only [Act.put,List.setIfInBounds_toArray,List.set_cons_zero,List.set_cons_succ,i64_w,i32_w]
     rfl
    refine pure_ (i:=3) (N:=some 5) (v:=?_) (a':=?_) #[true,true,true,true,false,false,false,false,false] rfl rfl (any_of HT_.out (by kernel_rfl)) (fun _ _ _ h => h) (Or.inl ⟨by rfl,?_⟩) ?_ ?_
    rotate_left
    ·intro w'
     go_simp;with_reducible rfl
    rotate_left
    ·simp only [Act.put,List.setIfInBounds_toArray,List.set_cons_zero,List.set_cons_succ,i64_w,i32_w]
     rfl
    refine pure_ (i:=4) (N:=some 9) (v:=?_) (a':=?_) #[true,true,true,true,true,false,false,false,false] rfl rfl (any_of HT_.out (by kernel_rfl)) (fun _ _ _ h => h) (Or.inl ⟨by rfl,?_⟩) ?_ ?_
    rotate_left
    ·intro w'
     go_simp;with_reducible rfl
    rotate_left
    ·simp only [Act.put,List.setIfInBounds_toArray,List.set_cons_zero,List.set_cons_succ,i64_w,i32_w]
     rfl
    refine pure_ (i:=5) (N:=some 10) (v:=?_) (a':=?_) #[true,true,true,true,true,true,false,false,false] rfl rfl (any_of HT_.out (by kernel_rfl)) (fun _ _ _ h => h) (Or.inl ⟨by rfl,?_⟩) ?_ ?_
    rotate_left
    ·intro w'
     go_simp;with_reducible rfl
    rotate_left
    ·simp only [Act.put,List.setIfInBounds_toArray,List.set_cons_zero,List.set_cons_succ,i64_w,i32_w]
     rfl
    refine one_ (i:=6) (N:=some 3) #[true,true,true,true,true,true,true,false,false] rfl rfl (one_of HT_.out (by kernel_rfl)) (by decide) (fun K hK => ?_)
    refine box_step ?hg (N:=3) ?hd (cs:=#[.int .u64 0,.int .u64 0]) (t:=94) ?hr ?_;(case hd => rfl);(case hg => rfl);(case hr => first | (go_simp;done) | (go_simp;rfl))
    intro gb397 hg w9 hbox hb
    have n0_:=Aside0.mk (blk_below (g:=gb390) kA hb);have n1_:=Aside0.mk (blk_below (g:=gb391) kA hb);have n2_:=Aside0.mk (below_step bA hb);have n3_:=Aside0.mk (hbox);have n4_:=Aside0.mk (gwA hg bA);have n5_:=Aside0.mk (gwA hg bA);have n6_:=Aside0.mk (neA (g:=gb390) hg kA);have n7_:=Aside0.mk (neB (g:=gb390) hg kA);have n8_:=Aside0.mk (neA (g:=gb391) hg kA);have n9_:=Aside0.mk (neB (g:=gb391) hg kA);clear BK390 BK391 HB;have BK390:=n0_;have BK391:=n1_;have HB:=n2_;have BK397:=n3_;have GW397:=n4_;have GE397:=n5_;have NB390_397:=n6_;have NB397_390:=n7_;have NB391_397:=n8_;have NB397_391:=n9_;clear n0_ n1_ n2_ n3_ n4_ n5_ n6_ n7_ n8_ n9_ hb hbox hg
    refine hK.out _ _ ⟨(blk_cell BK390.out 0).trans rfl,(blk_cell BK390.out 1).trans rfl⟩ (fun hHeld => ?_)
    clear hK K
    refine norm_ (a':=?_) ?_ ?_
    rotate_left
    ·show Act.put _ (some 3) _ = _
     simp only [Act.put,List.setIfInBounds_toArray,List.set_cons_zero,List.set_cons_succ,i64_w,i32_w]
     rfl
    exact norm_ (by simp only [putAll,Act.put,List.setIfInBounds_toArray,List.set_cons_zero,List.set_cons_succ]) (hCont (gb397) _ ⟨hHeld,kA,kA,kA,GW397.out,GE397.out,NB390_397.out,NB397_390.out,NB391_397.out,NB397_391.out,bA⟩)
   ·skip
    refine box_step ?hg (N:=3) ?hd (cs:=#[.int .u64 0,.int .u64 0]) (t:=94) ?hr ?_;(case hd => rfl);(case hg => rfl);(case hr => first | (go_simp;done) | (go_simp;rfl))
    intro gb397 hg w8 hbox hb
    have n0_:=Aside0.mk (blk_below (g:=gb390) kA hb);have n1_:=Aside0.mk (blk_below (g:=gb391) kA hb);have n2_:=Aside0.mk (below_step bA hb);have n3_:=Aside0.mk (hbox);have n4_:=Aside0.mk (gwA hg bA);have n5_:=Aside0.mk (gwA hg bA);have n6_:=Aside0.mk (neA (g:=gb390) hg kA);have n7_:=Aside0.mk (neB (g:=gb390) hg kA);have n8_:=Aside0.mk (neA (g:=gb391) hg kA);have n9_:=Aside0.mk (neB (g:=gb391) hg kA);clear BK390 BK391 HB;have BK390:=n0_;have BK391:=n1_;have HB:=n2_;have BK397:=n3_;have GW397:=n4_;have GE397:=n5_;have NB390_397:=n6_;have NB397_390:=n7_;have NB391_397:=n8_;have NB397_391:=n9_;clear n0_ n1_ n2_ n3_ n4_ n5_ n6_ n7_ n8_ n9_ hb hbox hg
    refine hK.out _ _ ⟨(blk_cell BK390.out 0).trans rfl,(blk_cell BK390.out 1).trans rfl⟩ (fun hHeld => ?_)
    clear hK K
    refine norm_ (a':=?_) ?_ ?_
    rotate_left
    ·show Act.put _ (some 3) _ = _
     simp only [Act.put,List.setIfInBounds_toArray,List.set_cons_zero,List.set_cons_succ,i64_w,i32_w]
     rfl
    refine one_ (i:=2) (N:=some 8) #[true,true,true,false,false,false,true,false,false] rfl rfl (one_of HT_.out (by kernel_rfl)) (by decide) (fun K hK => ?_)
    refine goes_ Tryd.func80 (by kernel_rfl) rfl #[.agg #[.int .u64 a0_0,.int .u64 a0_1],.agg #[.int .u64 t392,.int .u64 t393]] (by rfl) rfl rfl aA ?_
    with_reducible refine (backfillref01_Add.calls a0_0 a0_1 t392 t393 t394 t395 t396 _ A3.out).mono ?_
    rintro e w9 ⟨rfl,hb⟩
    refine ⟨_,rfl,?_⟩;have n0_:=Aside0.mk (blk_below (g:=gb390) kA hb);have n1_:=Aside0.mk (blk_below (g:=gb391) kA hb);have n2_:=Aside0.mk (blk_below (g:=gb397) kA hb);have n3_:=Aside0.mk (below_step bA hb);clear BK390 BK391 BK397 HB;have BK390:=n0_;have BK391:=n1_;have BK397:=n2_;have HB:=n3_;clear n0_ n1_ n2_ n3_;(try clear hb)
    refine hK.out _ _ ⟨(blk_cell BK390.out 0).trans rfl,(blk_cell BK390.out 1).trans rfl⟩ (fun hHeld => ?_)
    clear hK K
    refine norm_ (a':=?_) ?_ ?_
    rotate_left
    ·show Act.put _ (some 8) _ = _
     simp only [Act.put,List.setIfInBounds_toArray,List.set_cons_zero,List.set_cons_succ,i64_w,i32_w]
     rfl
    refine pure_ (i:=3) (N:=some 5) (v:=?_) (a':=?_) #[true,true,true,true,false,false,true,false,false] rfl rfl (any_of HT_.out (by kernel_rfl)) (fun _ _ _ h => h) (Or.inl ⟨by rfl,?_⟩) ?_ ?_
    rotate_left
    ·intro w'
     go_simp;with_reducible rfl
    rotate_left
    ·simp only [Act.put,List.setIfInBounds_toArray,List.set_cons_zero,List.set_cons_succ,i64_w,i32_w]
     rfl
    refine pure_ (i:=4) (N:=some 9) (v:=?_) (a':=?_) #[true,true,true,true,true,false,true,false,false] rfl rfl (any_of HT_.out (by kernel_rfl)) (fun _ _ _ h => h) (Or.inl ⟨by rfl,?_⟩) ?_ ?_
    rotate_left
    ·intro w'
     go_simp;with_reducible rfl
    rotate_left
    ·simp only [Act.put,List.setIfInBounds_toArray,List.set_cons_zero,List.set_cons_succ,i64_w,i32_w]
     rfl
    refine pure_ (i:=5) (N:=some 10) (v:=?_) (a':=?_) #[true,true,true,true,true,true,true,false,false] rfl rfl (any_of HT_.out (by kernel_rfl)) (fun _ _ _ h => h) (Or.inl ⟨by rfl,?_⟩) ?_ ?_
    rotate_left
    ·intro w'
     go_simp;with_reducible rfl
    rotate_left
    ·simp only [Act.put,List.setIfInBounds_toArray,List.set_cons_zero,List.set_cons_succ,i64_w,i32_w]
     rfl
    exact norm_ (by simp only [putAll,Act.put,List.setIfInBounds_toArray,List.set_cons_zero,List.set_cons_succ]) (hCont (gb397) _ ⟨hHeld,kA,kA,kA,GW397.out,GE397.out,NB390_397.out,NB397_390.out,NB391_397.out,NB397_391.out,bA⟩)
  ·skip
   refine box_step ?hg (N:=3) ?hd (cs:=#[.int .u64 0,.int .u64 0]) (t:=94) ?hr ?_;(case hd => rfl);(case hg => rfl);(case hr => first | (go_simp;done) | (go_simp;rfl))
   intro gb397 hg w7 hbox hb
   have n0_:=Aside0.mk (blk_below (g:=gb390) kA hb);have n1_:=Aside0.mk (blk_below (g:=gb391) kA hb);have n2_:=Aside0.mk (below_step bA hb);have n3_:=Aside0.mk (hbox);have n4_:=Aside0.mk (gwA hg bA);have n5_:=Aside0.mk (gwA hg bA);have n6_:=Aside0.mk (neA (g:=gb390) hg kA);have n7_:=Aside0.mk (neB (g:=gb390) hg kA);have n8_:=Aside0.mk (neA (g:=gb391) hg kA);have n9_:=Aside0.mk (neB (g:=gb391) hg kA);clear BK390 BK391 HB;have BK390:=n0_;have BK391:=n1_;have HB:=n2_;have BK397:=n3_;have GW397:=n4_;have GE397:=n5_;have NB390_397:=n6_;have NB397_390:=n7_;have NB391_397:=n8_;have NB397_391:=n9_;clear n0_ n1_ n2_ n3_ n4_ n5_ n6_ n7_ n8_ n9_ hb hbox hg
   refine hK.out _ _ ⟨(blk_cell BK390.out 0).trans rfl,(blk_cell BK390.out 1).trans rfl⟩ (fun hHeld => ?_)
   clear hK K
   refine norm_ (a':=?_) ?_ ?_
   rotate_left
   ·show Act.put _ (some 3) _ = _
    simp only [Act.put,List.setIfInBounds_toArray,List.set_cons_zero,List.set_cons_succ,i64_w,i32_w]
    rfl
   refine one_ (i:=1) (N:=some 7) #[true,true,false,false,false,false,true,false,false] rfl rfl (one_of HT_.out (by kernel_rfl)) (by decide) (fun K hK => ?_)
   refine goes_ Tryd.func77 (by kernel_rfl) rfl #[.int .u64 1] (by rfl) rfl rfl aA ?_
   with_reducible refine (backfillref01_Of.calls 1 t392 t393 _ A2.out).mono ?_
   rintro e w8 ⟨rfl,hb⟩
   refine ⟨_,rfl,?_⟩;have n0_:=Aside0.mk (blk_below (g:=gb390) kA hb);have n1_:=Aside0.mk (blk_below (g:=gb391) kA hb);have n2_:=Aside0.mk (blk_below (g:=gb397) kA hb);have n3_:=Aside0.mk (below_step bA hb);clear BK390 BK391 BK397 HB;have BK390:=n0_;have BK391:=n1_;have BK397:=n2_;have HB:=n3_;clear n0_ n1_ n2_ n3_;(try clear hb)
   refine hK.out _ _ ⟨(blk_cell BK390.out 0).trans rfl,(blk_cell BK390.out 1).trans rfl⟩ (fun hHeld => ?_)
   clear hK K
   refine norm_ (a':=?_) ?_ ?_
   rotate_left
   ·show Act.put _ (some 7) _ = _
    simp only [Act.put,List.setIfInBounds_toArray,List.set_cons_zero,List.set_cons_succ,i64_w,i32_w]
    rfl
   refine one_ (i:=2) (N:=some 8) #[true,true,true,false,false,false,true,false,false] rfl rfl (one_of HT_.out (by kernel_rfl)) (by decide) (fun K hK => ?_)
   refine goes_ Tryd.func80 (by kernel_rfl) rfl #[.agg #[.int .u64 a0_0,.int .u64 a0_1],.agg #[.int .u64 t392,.int .u64 t393]] (by rfl) rfl rfl aA ?_
   with_reducible refine (backfillref01_Add.calls a0_0 a0_1 t392 t393 t394 t395 t396 _ A3.out).mono ?_
   rintro e w9 ⟨rfl,hb⟩
   refine ⟨_,rfl,?_⟩;have n0_:=Aside0.mk (blk_below (g:=gb390) kA hb);have n1_:=Aside0.mk (blk_below (g:=gb391) kA hb);have n2_:=Aside0.mk (blk_below (g:=gb397) kA hb);have n3_:=Aside0.mk (below_step bA hb);clear BK390 BK391 BK397 HB;have BK390:=n0_;have BK391:=n1_;have BK397:=n2_;have HB:=n3_;clear n0_ n1_ n2_ n3_;(try clear hb)
   refine hK.out _ _ ⟨(blk_cell BK390.out 0).trans rfl,(blk_cell BK390.out 1).trans rfl⟩ (fun hHeld => ?_)
   clear hK K
   refine norm_ (a':=?_) ?_ ?_
   rotate_left
   ·show Act.put _ (some 8) _ = _
    simp only [Act.put,List.setIfInBounds_toArray,List.set_cons_zero,List.set_cons_succ,i64_w,i32_w]
    rfl
   refine pure_ (i:=3) (N:=some 5) (v:=?_) (a':=?_) #[true,true,true,true,false,false,true,false,false] rfl rfl (any_of HT_.out (by kernel_rfl)) (fun _ _ _ h => h) (Or.inl ⟨by rfl,?_⟩) ?_ ?_
   rotate_left
   ·intro w'
    go_simp;with_reducible rfl
   rotate_left
   ·simp only [Act.put,List.setIfInBounds_toArray,List.set_cons_zero,List.set_cons_succ,i64_w,i32_w]
    rfl
   refine pure_ (i:=4) (N:=some 9) (v:=?_) (a':=?_) #[true,true,true,true,true,false,true,false,false] rfl rfl (any_of HT_.out (by kernel_rfl)) (fun _ _ _ h => h) (Or.inl ⟨by rfl,?_⟩) ?_ ?_
   rotate_left
   ·intro w'
    go_simp;with_reducible rfl
   rotate_left
   ·simp only [Act.put,List.setIfInBounds_toArray,List.set_cons_zero,List.set_cons_succ,i64_w,i32_w]
    rfl
   refine pure_ (i:=5) (N:=some 10) (v:=?_) (a':=?_) #[true,true,true,true,true,true,true,false,false] rfl rfl (any_of HT_.out (by kernel_rfl)) (fun _ _ _ h => h) (Or.inl ⟨by rfl,?_⟩) ?_ ?_
   rotate_left
   ·intro w'
    go_simp;with_reducible rfl
   rotate_left
   ·simp only [Act.put,List.setIfInBounds_toArray,List.set_cons_zero,List.set_cons_succ,i64_w,i32_w]
    rfl
   exact norm_ (by simp only [putAll,Act.put,List.setIfInBounds_toArray,List.set_cons_zero,List.set_cons_succ]) (hCont (gb397) _ ⟨hHeld,kA,kA,kA,GW397.out,GE397.out,NB390_397.out,NB397_390.out,NB391_397.out,NB397_391.out,bA⟩)
 rintro gb397 w10 ⟨hS_,h0_,h1_,h2_,h3_,h4_,h5_,h6_,h7_,h8_,h9_⟩
 have n0_ : Aside0 (w10.heap[gb390]? = some (.cells #[.int .u64 a0_0,.int .u64 a0_1] 94 (0,0))):=⟨h0_⟩
 have n1_ : Aside0 (w10.heap[gb391]? = some (.cells #[.int .u64 0,.int .u64 0] 94 (0,0))):=⟨h1_⟩
 have n2_ : Aside0 (w10.heap[gb397]? = some (.cells #[.int .u64 0,.int .u64 0] 94 (0,0))):=⟨h2_⟩
 have n3_ : Aside0 (w.heap.size ≤ gb397):=⟨h3_⟩
 have n4_ : Aside0 (w.heap.size ≤ gb397):=⟨h4_⟩
 have n5_ : Aside0 (gb390 ≠ gb397):=⟨h5_⟩
 have n6_ : Aside0 (gb397 ≠ gb390):=⟨h6_⟩
 have n7_ : Aside0 (gb391 ≠ gb397):=⟨h7_⟩
 have n8_ : Aside0 (gb397 ≠ gb391):=⟨h8_⟩
 have n9_ : Aside0 (Below w.heap.size w w10):=⟨h9_⟩
 clear BK390 BK391 HB h0_ h1_ h2_ h3_ h4_ h5_ h6_ h7_ h8_ h9_;have BK390:=n0_;have BK391:=n1_;have BK397:=n2_;have GW397:=n3_;have GE397:=n4_;have NB390_397:=n5_;have NB397_390:=n6_;have NB391_397:=n7_;have NB397_391:=n8_;have HB:=n9_;clear n0_ n1_ n2_ n3_ n4_ n5_ n6_ n7_ n8_ n9_
 have hHeld : w10.cell? ⟨gb390,0,none⟩ = some (.int .u64 a0_0) ∧ w10.cell? ⟨gb390,1,none⟩ = some (.int .u64 a0_1):=hS_
 refine norm_ (a':=?_) ?_ ?_
 rotate_left
 ·simp only [putAll,Act.put,List.setIfInBounds_toArray,List.set_cons_zero,List.set_cons_succ]
  rfl
 refine one_ (i:=7) (N:=none) #[true,true,true,true,true,true,true,true,false] rfl rfl (one_of HT_.out (by kernel_rfl)) (by decide) (fun K hK => ?_)
 have hs11 : w10.cell? ⟨gb397,0,none⟩ = some (.int .u64 0):=(blk_cell BK397.out 0).trans rfl
 have hfs11:=blk_frozen BK397.out 0
 have hns11_0:=NB390_397.out
 have hns11_1:=NB391_397.out
 have hms11_0:=NB397_390.out
 have hms11_1:=NB397_391.out
 have hs12 : w10.cell? ⟨gb397,1,none⟩ = some (.int .u64 0):=(blk_cell BK397.out 1).trans rfl
 have hfs12:=blk_frozen BK397.out 1
 have hns12_0:=NB390_397.out
 have hns12_1:=NB391_397.out
 have hms12_0:=NB397_390.out
 have hms12_1:=NB397_391.out
 refine skip_ (w1:=?_) (by rfl) rfl ?_ ?_
 rotate_left
 ·go_simp
  rfl
 refine hK.out _ _ ⟨((cell_far (p:=⟨gb397,_,none⟩) NB390_397.out _).trans (((cell_far (p:=⟨gb397,_,none⟩) NB390_397.out _).trans (hHeld.1)))),((cell_far (p:=⟨gb397,_,none⟩) NB390_397.out _).trans (((cell_far (p:=⟨gb397,_,none⟩) NB390_397.out _).trans (hHeld.2))))⟩ (fun hHeld => ?_)
 clear hK K
 refine pure_ (i:=8) (N:=some 4) (v:=?_) (a':=?_) #[true,true,true,true,true,true,true,true,true] rfl rfl (any_of HT_.out (by kernel_rfl)) (fun _ _ _ h => h) (Or.inl ⟨by rfl,?_⟩) ?_ ?_
 rotate_left
 ·intro w'
  go_simp;with_reducible rfl
 rotate_left
 ·simp only [Act.put,List.setIfInBounds_toArray,List.set_cons_zero,List.set_cons_succ,i64_w,i32_w]
  rfl
 refine done_ (done_of HT_.out (by kernel_rfl)) ?_
 have hnb13:=NB397_390.out
 have hnc13:=NB390_397.out
 have hnb14:=NB397_391.out
 have hnc14:=NB391_397.out
 have hcz15_0 : w10.cell? ⟨gb397,0,none⟩ = some (.int .u64 0):=(blk_cell BK397.out 0).trans rfl
 have hcz15_1 : w10.cell? ⟨gb397,1,none⟩ = some (.int .u64 0):=(blk_cell BK397.out 1).trans rfl
 have hfz15_0:=blk_frozen BK397.out 0
 have hfz15_1:=blk_frozen BK397.out 1
 have hnb16:=NB391_390.out
 have hnc16:=NB390_391.out
 have hcz17_0 : w10.cell? ⟨gb391,0,none⟩ = some (.int .u64 0):=(blk_cell BK391.out 0).trans rfl
 have hcz17_1 : w10.cell? ⟨gb391,1,none⟩ = some (.int .u64 0):=(blk_cell BK391.out 1).trans rfl
 have hfz17_0:=blk_frozen BK391.out 0
 have hfz17_1:=blk_frozen BK391.out 1
 try go_wp2
 refine bodyPost_ret (results_cell_row rfl _ _ gb391 94 #[.int .u64 t394,.int .u64 t395] (0,0) _ rfl (by (with_reducible repeat (first | refine blk_drewN ?_ _ | refine blk_drew ?_ | refine blk_alloc ?_ _));refine blk_put (cs:=#[.int .u64 t394,.int .u64 0]) ?_ 1 _ rfl;(with_reducible repeat (first | refine blk_drewN ?_ _ | refine blk_drew ?_ | refine blk_alloc ?_ _));refine blk_put (cs:=#[.int .u64 0,.int .u64 0]) ?_ 0 _ rfl;(with_reducible repeat (first | refine blk_drewN ?_ _ | refine blk_drew ?_ | refine blk_alloc ?_ _));refine blk_far ?_ NB391_397.out _;(with_reducible repeat (first | refine blk_drewN ?_ _ | refine blk_drew ?_ | refine blk_alloc ?_ _));refine blk_far ?_ NB391_397.out _;exact kA) Tryd.underlying94 rfl (by kernel_rfl)) rfl ?_
 exact ⟨by first | rfl | (simp [errW_none,errW_some] <;> rfl) | (simp [*,errW_none,errW_some] <;> rfl),bA⟩

end Go.Proofs.YtgjjfnjnjnbfgaaDoor.GLG
namespace Go.Proofs.YtgjjfnjnjnbfgaaDoor.GLG
open Go.RowKit Go.Proofs.YtgjjfnjnjnbfgaaDoorW.PrintWords Go.Proofs.YtgjjfnjnjnbfgaaDoorW.PrintLast Go.Proofs.YtgjjfnjnjnbfgaaDoorW.PrintMore
attribute [local go_sem] max2_int min2_int max_two min_two max_three min_three max_four min_four   -- for this text's walks alone
set_option linter.unusedVariables false
set_option linter.unusedSimpArgs false
def backfillref04_quotient.j0 : Nat → Bool → Int → Int → Option (Int × Bool)
 | 0,_,_,_ => none
 | k + 1,x24,x404000,x404001 => if x24 = true then ((backfillref04_up.f x404000 x404001).bind fun bt404 => ((backfillref04_small.f bt404.1 bt404.2).bind fun bt406 => (some (bt406.1,bt406.2)))) else ((backfillref04_small.f x404000 x404001).bind fun bt408 => (some (bt408.1,bt408.2)))
def backfillref04_quotient.f (k : Nat) (a0_0 : Int) (a0_1 : Int) (a1 : Int) (a2 : Bool) : Option (Int × Bool):=(backfillref01_Div.f k a0_0 a0_1 a1).bind fun bt399 => (if bt399.2.2.2 = true then (if a2 = true then (backfillref04_quotient.j0 k (decide (bt399.2.2.1 > 0)) bt399.1 bt399.2.1) else (backfillref04_quotient.j0 k false bt399.1 bt399.2.1)) else (some (18446744073709551615,false)))
theorem backfillref04_quotient.mono_l : ∀ k,(∀ y0 y1 y2,LeO (backfillref04_quotient.j0 k y0 y1 y2) (backfillref04_quotient.j0 (k + 1) y0 y1 y2))
 | 0 => fun _ _ _ r h => by simp [backfillref04_quotient.j0] at h
 | k + 1 => by
  have ih0:=backfillref04_quotient.mono_l k
  ·intro y0 y1 y2
   unfold backfillref04_quotient.j0
   repeat' first
   | (with_reducible exact ih0 _ _ _)
   | (with_reducible exact backfillref01_Div.mono _ _ _ _)
   | (with_reducible exact LeO.refl _)
   | (with_reducible exact LeO.none _)
   | (with_reducible refine LeO.ite ?_ ?_)
   | (with_reducible refine LeO.bind ?_ (fun _ => ?_))
   | exact ih0 _ _ _
   | exact backfillref01_Div.mono _ _ _ _
   | exact LeO.none _
   | refine LeO.ite ?_ ?_
   | refine LeO.bind ?_ (fun _ => ?_)
theorem backfillref04_quotient.mono : ∀ a0 a1 a2 a3 k,LeO (backfillref04_quotient.f k a0 a1 a2 a3) (backfillref04_quotient.f (k + 1) a0 a1 a2 a3):=by
 intro a0 a1 a2 a3 k
 have ih0:=backfillref04_quotient.mono_l k
 unfold backfillref04_quotient.f
 repeat' first
   | (with_reducible exact ih0 _ _ _)
   | (with_reducible exact backfillref01_Div.mono _ _ _ _)
   | (with_reducible exact LeO.refl _)
   | (with_reducible exact LeO.none _)
   | (with_reducible refine LeO.ite ?_ ?_)
   | (with_reducible refine LeO.bind ?_ (fun _ => ?_))
   | exact ih0 _ _ _
   | exact backfillref01_Div.mono _ _ _ _
   | exact LeO.none _
   | refine LeO.ite ?_ ?_
   | refine LeO.bind ?_ (fun _ => ?_)
set_option maxHeartbeats 8000000 in
set_option maxRecDepth 100000 in
theorem backfillref04_quotient.calls (k : Nat) (a0_0 : Int) (a0_1 : Int) (a1 : Int) (a2 : Bool) (r1 : Int) (r2 : Bool) (w : World) (h : backfillref04_quotient.f k a0_0 a0_1 a1 a2 = some (r1,r2)) :
  Calls Tryd.prog 98 #[.agg #[.int .u64 a0_0,.int .u64 a0_1],.int .u64 a1,.bool a2] w fun e w' => e = .returned (.tuple #[.int .u64 r1,.bool r2]) ∧ Below w.heap.size w w':=by
 have hu94:=Tryd.underlying94
 have HB:=Aside0.mk (Below.refl w.heap.size w)
 have H : ((backfillref01_Div.f k a0_0 a0_1 a1).bind fun bt399 => (if bt399.2.2.2 = true then (if a2 = true then (backfillref04_quotient.j0 k (decide (bt399.2.2.1 > 0)) bt399.1 bt399.2.1) else (backfillref04_quotient.j0 k false bt399.1 bt399.2.1)) else (some (18446744073709551615,false)))) = some (r1,r2):=h
 clear h;replace H:=Option.bind_eq_some_iff.mp H;obtain ⟨⟨t399,t400,t401,t402⟩,A40,H⟩:=H;replace H : (if t402 = true then (if a2 = true then (backfillref04_quotient.j0 k (decide (t401 > 0)) t399 t400) else (backfillref04_quotient.j0 k false t399 t400)) else (some (18446744073709551615,false))) = some (r1,r2):=H;have A4:=Aside0.mk A40;clear A40
 by_cases c5 : t402 = true
 ·subst c5
  have H1 : (if a2 = true then (backfillref04_quotient.j0 k (decide (t401 > 0)) t399 t400) else (backfillref04_quotient.j0 k false t399 t400)) = some (r1,r2):=by rw [if_pos rfl] at H;exact H
  clear H
  have H:=H1
  clear H1
  have HC6:=Aside0.mk H
  clear H
  go_enter Tryd.func98,Tryd.ntmps98
  go_upto_region 4 with (first | ((with_reducible refine gate_dst (N:=3) rfl ?_);refine bxA 3 #[.int .u64 a0_0,.int .u64 a0_1] 94 ?_;intro gb398 hg w7 hbox hb;have n0_:=Aside0.mk (below_step bA hb);have n1_:=Aside0.mk (hbox);have n2_:=Aside0.mk (gwA hg bA);have n3_:=Aside0.mk (gwA hg bA);clear HB;have HB:=n0_;have BK398:=n1_;have GW398:=n2_;have GE398:=n3_;clear n0_ n1_ n2_ n3_ hb hbox hg;have hcz8_0 : w7.cell? ⟨gb398,0,none⟩ = some (.int .u64 a0_0):=(blk_cell BK398.out 0).trans rfl;have hcz8_1 : w7.cell? ⟨gb398,1,none⟩ = some (.int .u64 a0_1):=(blk_cell BK398.out 1).trans rfl;have hfz8_0:=blk_frozen BK398.out 0;have hfz8_1:=blk_frozen BK398.out 1) | ((with_reducible refine gate_callee (f:=100) rfl ?_);refine goesL_ (some 14) rfl rfl Tryd.func100 (by kernel_rfl) rfl #[.agg #[.int .u64 a0_0,.int .u64 a0_1],.int .u64 a1] rfl aA ?_;(with_reducible refine (backfillref01_Div.calls k a0_0 a0_1 a1 t399 t400 t401 true _ A4.out).mono ?_);rintro e w9 ⟨rfl,hb⟩;refine ⟨_,rfl,?_⟩;have n0_:=Aside0.mk (blk_below (g:=gb398) kA hb);have n1_:=Aside0.mk (below_step bA hb);clear BK398 HB;have BK398:=n0_;have HB:=n1_;clear n0_ n1_;(try clear hb)) | ((with_reducible refine gate_dst (N:=8) rfl ?_);refine bxA 8 #[.int .u64 0,.int .u64 0] 94 ?_;intro gb403 hg w10 hbox hb;have n0_:=Aside0.mk (blk_below (g:=gb398) kA hb);have n1_:=Aside0.mk (below_step bA hb);have n2_:=Aside0.mk (hbox);have n3_:=Aside0.mk (gwA hg bA);have n4_:=Aside0.mk (gwA hg bA);have n5_:=Aside0.mk (neA (g:=gb398) hg kA);have n6_:=Aside0.mk (neB (g:=gb398) hg kA);clear BK398 HB;have BK398:=n0_;have HB:=n1_;have BK403:=n2_;have GW403:=n3_;have GE403:=n4_;have NB398_403:=n5_;have NB403_398:=n6_;clear n0_ n1_ n2_ n3_ n4_ n5_ n6_ hb hbox hg;have hnb11:=NB403_398.out;have hnc11:=NB398_403.out;have hcz12_0 : w10.cell? ⟨gb403,0,none⟩ = some (.int .u64 0):=(blk_cell BK403.out 0).trans rfl;have hcz12_1 : w10.cell? ⟨gb403,1,none⟩ = some (.int .u64 0):=(blk_cell BK403.out 1).trans rfl;have hfz12_0:=blk_frozen BK403.out 0;have hfz12_1:=blk_frozen BK403.out 1))
  (try simp only [Act.put,List.setIfInBounds_toArray,List.set_cons_zero,List.set_cons_succ])
  go_cut [24] (fun v24 wc => ∃ (kq : Nat) (x24_5 : Bool),v24 = .bool x24_5 ∧ Aside0 (backfillref04_quotient.j0 kq x24_5 t399 t400 = some (r1,r2)) ∧ Aside0 (kq ≤ k) ∧ Aside0 (wc.heap[gb398]? = some (.cells #[.int .u64 a0_0,.int .u64 a0_1] 94 (0,0))) ∧ Aside0 (wc.heap[gb403]? = some (.cells #[.int .u64 t399,.int .u64 t400] 94 (0,0))) ∧ Aside0 (Below w.heap.size w wc))
  case first =>
   have H:=HC6.out
   clear HC6
   by_cases c13 : a2 = true
   ·subst c13
    have H1 : (backfillref04_quotient.j0 k (decide (t401 > 0)) t399 t400) = some (r1,r2):=by rw [if_pos rfl] at H;exact H
    clear H
    have H:=H1
    clear H1
    have H':=Aside0.mk H
    clear H
    go_wp2
    go_meet
    case rel => exact ⟨_,(decide (t401 > 0)),(by first | rfl | (simp;done) | (simp [*];done)),H',⟨by first | omega | exact Nat.le_refl _⟩,⟨by (with_reducible repeat (first | refine blk_drewN ?_ _ | refine blk_drew ?_ | refine blk_alloc ?_ _));refine blk_far ?_ NB398_403.out _;(with_reducible repeat (first | refine blk_drewN ?_ _ | refine blk_drew ?_ | refine blk_alloc ?_ _));refine blk_far ?_ NB398_403.out _;exact kA⟩,⟨by (with_reducible repeat (first | refine blk_drewN ?_ _ | refine blk_drew ?_ | refine blk_alloc ?_ _));refine blk_put (cs:=#[.int .u64 t399,.int .u64 0]) ?_ 1 _ rfl;(with_reducible repeat (first | refine blk_drewN ?_ _ | refine blk_drew ?_ | refine blk_alloc ?_ _));refine blk_put (cs:=#[.int .u64 0,.int .u64 0]) ?_ 0 _ rfl;exact kA⟩,⟨bA⟩⟩
   ·replace c13:=Bool.eq_false_iff.mpr c13
    subst c13
    have H1 : (backfillref04_quotient.j0 k false t399 t400) = some (r1,r2):=by rw [if_neg (show ¬ (false = true) by decide)] at H;exact H
    clear H
    have H:=H1
    clear H1
    have H':=Aside0.mk H
    clear H
    go_wp2
    go_meet
    case rel => exact ⟨_,(false),(by first | rfl | (simp;done) | (simp [*];done)),H',⟨by first | omega | exact Nat.le_refl _⟩,⟨by (with_reducible repeat (first | refine blk_drewN ?_ _ | refine blk_drew ?_ | refine blk_alloc ?_ _));refine blk_far ?_ NB398_403.out _;(with_reducible repeat (first | refine blk_drewN ?_ _ | refine blk_drew ?_ | refine blk_alloc ?_ _));refine blk_far ?_ NB398_403.out _;exact kA⟩,⟨by (with_reducible repeat (first | refine blk_drewN ?_ _ | refine blk_drew ?_ | refine blk_alloc ?_ _));refine blk_put (cs:=#[.int .u64 t399,.int .u64 0]) ?_ 1 _ rfl;(with_reducible repeat (first | refine blk_drewN ?_ _ | refine blk_drew ?_ | refine blk_alloc ?_ _));refine blk_put (cs:=#[.int .u64 0,.int .u64 0]) ?_ 0 _ rfl;exact kA⟩,⟨bA⟩⟩
  case rest =>
   clear HC6
   try clear c1
   try clear p2
   try clear c5
   try clear c9
   try clear c10
   try clear c11
   try clear c13
   try clear hcz12_0
   try clear hcz12_1
   try clear hcz8_0
   try clear hcz8_1
   try clear hfz12_0
   try clear hfz12_1
   try clear hfz8_0
   try clear hfz8_1
   obtain ⟨kq,x24_5,rfl,HA,HJ5,BK398,BK403,HB⟩:=hcut
   cases kq with
   | zero => exact absurd HA.out (by simp [backfillref04_quotient.j0])
   | succ kj5 =>
    have H:=HA.out
    clear HA
    simp only [backfillref04_quotient.j0] at H
    by_cases c14 : x24_5 = true
    ·subst c14
     have H1 : ((backfillref04_up.f t399 t400).bind fun bt404 => ((backfillref04_small.f bt404.1 bt404.2).bind fun bt406 => (some (bt406.1,bt406.2)))) = some (r1,r2):=by rw [if_pos rfl] at H;exact H
     clear H
     have H:=H1
     clear H1;replace H:=Option.bind_eq_some_iff.mp H;obtain ⟨⟨t404,t405⟩,A150,H⟩:=H;replace H : ((backfillref04_small.f t404 t405).bind fun bt406 => (some (bt406.1,bt406.2))) = some (r1,r2):=H;have A15:=Aside0.mk A150;clear A150;replace H:=Option.bind_eq_some_iff.mp H;obtain ⟨⟨t406,t407⟩,A160,H⟩:=H;replace H : (some (t406,t407)) = some (r1,r2):=H;have A16:=Aside0.mk A160;clear A160
     simp only [Option.some.injEq,Prod.mk.injEq] at H
     obtain ⟨rfl,rfl⟩:=H
     have hnb17:=NB403_398.out
     have hnc17:=NB398_403.out
     have hcz18_0 : wc.cell? ⟨gb403,0,none⟩ = some (.int .u64 t399):=(blk_cell BK403.out 0).trans rfl
     have hcz18_1 : wc.cell? ⟨gb403,1,none⟩ = some (.int .u64 t400):=(blk_cell BK403.out 1).trans rfl
     have hfz18_0:=blk_frozen BK403.out 0
     have hfz18_1:=blk_frozen BK403.out 1
     go_wp2_with (first | ((with_reducible refine gate_callee (f:=101) rfl ?_);refine goesL_ (some 26) rfl rfl Tryd.func101 (by kernel_rfl) rfl #[.agg #[.int .u64 t399,.int .u64 t400]] rfl aA ?_;(with_reducible refine (backfillref04_up.calls t399 t400 t404 t405 _ A15.out).mono ?_);rintro e w19 ⟨rfl,hb⟩;refine ⟨_,rfl,?_⟩;have n0_:=Aside0.mk (blk_below (g:=gb398) kA hb);have n1_:=Aside0.mk (blk_below (g:=gb403) kA hb);have n2_:=Aside0.mk (below_step bA hb);clear BK398 BK403 HB;have BK398:=n0_;have BK403:=n1_;have HB:=n2_;clear n0_ n1_ n2_;(try clear hb);have hcz20_0 : w19.cell? ⟨gb403,0,none⟩ = some (.int .u64 t399):=(blk_cell BK403.out 0).trans rfl;have hcz20_1 : w19.cell? ⟨gb403,1,none⟩ = some (.int .u64 t400):=(blk_cell BK403.out 1).trans rfl;have hfz20_0:=blk_frozen BK403.out 0;have hfz20_1:=blk_frozen BK403.out 1) | ((with_reducible refine gate_callee (f:=97) rfl ?_);refine goesL_ (some 28) rfl rfl Tryd.func97 (by kernel_rfl) rfl #[.agg #[.int .u64 t404,.int .u64 t405]] rfl aA ?_;(with_reducible refine (backfillref04_small.calls t404 t405 t406 t407 _ A16.out).mono ?_);rintro e w21 ⟨rfl,hb⟩;refine ⟨_,rfl,?_⟩;have n0_:=Aside0.mk (blk_below (g:=gb398) (o:=.cells #[.int .u64 a0_0,.int .u64 a0_1] 94 (0,0)) (by (with_reducible repeat (first | refine blk_drewN ?_ _ | refine blk_drew ?_ | refine blk_alloc ?_ _));refine blk_far ?_ NB398_403.out _;(with_reducible repeat (first | refine blk_drewN ?_ _ | refine blk_drew ?_ | refine blk_alloc ?_ _));refine blk_far ?_ NB398_403.out _;exact kA) hb);have n1_:=Aside0.mk (blk_below (g:=gb403) (o:=.cells #[.int .u64 t404,.int .u64 t405] 94 (0,0)) (by (with_reducible repeat (first | refine blk_drewN ?_ _ | refine blk_drew ?_ | refine blk_alloc ?_ _));refine blk_put (cs:=#[.int .u64 t404,.int .u64 t400]) ?_ 1 _ rfl;(with_reducible repeat (first | refine blk_drewN ?_ _ | refine blk_drew ?_ | refine blk_alloc ?_ _));refine blk_put (cs:=#[.int .u64 t399,.int .u64 t400]) ?_ 0 _ rfl;exact kA) hb);have n2_:=Aside0.mk (below_step bA hb);clear BK398 BK403 HB;have BK398:=n0_;have BK403:=n1_;have HB:=n2_;clear n0_ n1_ n2_;(try clear hb)))
     go_ret2
     exact ⟨by first | rfl | (simp [errW_none,errW_some] <;> rfl) | (simp [*,errW_none,errW_some] <;> rfl),bA⟩
    ·replace c14:=Bool.eq_false_iff.mpr c14
     subst c14
     have H1 : ((backfillref04_small.f t399 t400).bind fun bt408 => (some (bt408.1,bt408.2))) = some (r1,r2):=by rw [if_neg (show ¬ (false = true) by decide)] at H;exact H
     clear H
     have H:=H1
     clear H1;replace H:=Option.bind_eq_some_iff.mp H;obtain ⟨⟨t408,t409⟩,A220,H⟩:=H;replace H : (some (t408,t409)) = some (r1,r2):=H;have A22:=Aside0.mk A220;clear A220
     simp only [Option.some.injEq,Prod.mk.injEq] at H
     obtain ⟨rfl,rfl⟩:=H
     have hnb23:=NB403_398.out
     have hnc23:=NB398_403.out
     have hcz24_0 : wc.cell? ⟨gb403,0,none⟩ = some (.int .u64 t399):=(blk_cell BK403.out 0).trans rfl
     have hcz24_1 : wc.cell? ⟨gb403,1,none⟩ = some (.int .u64 t400):=(blk_cell BK403.out 1).trans rfl
     have hfz24_0:=blk_frozen BK403.out 0
     have hfz24_1:=blk_frozen BK403.out 1
     go_wp2_with (first | ((with_reducible refine gate_callee (f:=97) rfl ?_);refine goesL_ (some 28) rfl rfl Tryd.func97 (by kernel_rfl) rfl #[.agg #[.int .u64 t399,.int .u64 t400]] rfl aA ?_;(with_reducible refine (backfillref04_small.calls t399 t400 t408 t409 _ A22.out).mono ?_);rintro e w25 ⟨rfl,hb⟩;refine ⟨_,rfl,?_⟩;have n0_:=Aside0.mk (blk_below (g:=gb398) kA hb);have n1_:=Aside0.mk (blk_below (g:=gb403) kA hb);have n2_:=Aside0.mk (below_step bA hb);clear BK398 BK403 HB;have BK398:=n0_;have BK403:=n1_;have HB:=n2_;clear n0_ n1_ n2_;(try clear hb)))
     go_ret2
     exact ⟨by first | rfl | (simp [errW_none,errW_some] <;> rfl) | (simp [*,errW_none,errW_some] <;> rfl),bA⟩
 ·replace c5:=Bool.eq_false_iff.mpr c5
  subst c5
  have H1 : (some (18446744073709551615,false)) = some (r1,r2):=by rw [if_neg (show ¬ (false = true) by decide)] at H;exact H
  clear H
  have H:=H1
  clear H1
  simp only [Option.some.injEq,Prod.mk.injEq] at H
  obtain ⟨rfl,rfl⟩:=H
  go_enter Tryd.func98,Tryd.ntmps98
  go_wp2_with (first | ((with_reducible refine gate_dst (N:=3) rfl ?_);refine bxA 3 #[.int .u64 a0_0,.int .u64 a0_1] 94 ?_;intro gb398 hg w26 hbox hb;have n0_:=Aside0.mk (below_step bA hb);have n1_:=Aside0.mk (hbox);have n2_:=Aside0.mk (gwA hg bA);have n3_:=Aside0.mk (gwA hg bA);clear HB;have HB:=n0_;have BK398:=n1_;have GW398:=n2_;have GE398:=n3_;clear n0_ n1_ n2_ n3_ hb hbox hg;have hcz27_0 : w26.cell? ⟨gb398,0,none⟩ = some (.int .u64 a0_0):=(blk_cell BK398.out 0).trans rfl;have hcz27_1 : w26.cell? ⟨gb398,1,none⟩ = some (.int .u64 a0_1):=(blk_cell BK398.out 1).trans rfl;have hfz27_0:=blk_frozen BK398.out 0;have hfz27_1:=blk_frozen BK398.out 1) | ((with_reducible refine gate_callee (f:=100) rfl ?_);refine goesL_ (some 14) rfl rfl Tryd.func100 (by kernel_rfl) rfl #[.agg #[.int .u64 a0_0,.int .u64 a0_1],.int .u64 a1] rfl aA ?_;(with_reducible refine (backfillref01_Div.calls k a0_0 a0_1 a1 t399 t400 t401 false _ A4.out).mono ?_);rintro e w28 ⟨rfl,hb⟩;refine ⟨_,rfl,?_⟩;have n0_:=Aside0.mk (blk_below (g:=gb398) kA hb);have n1_:=Aside0.mk (below_step bA hb);clear BK398 HB;have BK398:=n0_;have HB:=n1_;clear n0_ n1_;(try clear hb)) | ((with_reducible refine gate_dst (N:=8) rfl ?_);refine bxA 8 #[.int .u64 0,.int .u64 0] 94 ?_;intro gb403 hg w29 hbox hb;have n0_:=Aside0.mk (blk_below (g:=gb398) kA hb);have n1_:=Aside0.mk (below_step bA hb);have n2_:=Aside0.mk (hbox);have n3_:=Aside0.mk (gwA hg bA);have n4_:=Aside0.mk (gwA hg bA);have n5_:=Aside0.mk (neA (g:=gb398) hg kA);have n6_:=Aside0.mk (neB (g:=gb398) hg kA);clear BK398 HB;have BK398:=n0_;have HB:=n1_;have BK403:=n2_;have GW403:=n3_;have GE403:=n4_;have NB398_403:=n5_;have NB403_398:=n6_;clear n0_ n1_ n2_ n3_ n4_ n5_ n6_ hb hbox hg;have hnb30:=NB403_398.out;have hnc30:=NB398_403.out;have hcz31_0 : w29.cell? ⟨gb403,0,none⟩ = some (.int .u64 0):=(blk_cell BK403.out 0).trans rfl;have hcz31_1 : w29.cell? ⟨gb403,1,none⟩ = some (.int .u64 0):=(blk_cell BK403.out 1).trans rfl;have hfz31_0:=blk_frozen BK403.out 0;have hfz31_1:=blk_frozen BK403.out 1))
  go_ret2
  exact ⟨by first | rfl | (simp [errW_none,errW_some] <;> rfl) | (simp [*,errW_none,errW_some] <;> rfl),bA⟩

def backfillref04_Part.f (k : Nat) (a0 : Int) (a1 : Int) : Option (Int):=if a1 > 9223372036854775808 then (some a0) else ((backfillref01_Mul.f a0 a1).bind fun bt410 => ((backfillref04_quotient.f k bt410.1 bt410.2 9223372036854775808 false).bind fun bt412 => (some bt412.1)))
theorem backfillref04_Part.mono : ∀ a0 a1 k,LeO (backfillref04_Part.f k a0 a1) (backfillref04_Part.f (k + 1) a0 a1):=by
 intro a0 a1 k
 unfold backfillref04_Part.f
 repeat' first
   | (with_reducible exact backfillref04_quotient.mono _ _ _ _ _)
   | (with_reducible exact LeO.refl _)
   | (with_reducible exact LeO.none _)
   | (with_reducible refine LeO.ite ?_ ?_)
   | (with_reducible refine LeO.bind ?_ (fun _ => ?_))
   | exact backfillref04_quotient.mono _ _ _ _ _
   | exact LeO.none _
   | refine LeO.ite ?_ ?_
   | refine LeO.bind ?_ (fun _ => ?_)
set_option maxHeartbeats 8000000 in
set_option maxRecDepth 100000 in
theorem backfillref04_Part.calls (k : Nat) (a0 : Int) (a1 : Int) (r : Int) (w : World) (h : backfillref04_Part.f k a0 a1 = some r) :
  Calls Tryd.prog 86 #[.int .u64 a0,.int .u64 a1] w fun e w' => e = .returned (.int .u64 r) ∧ Below w.heap.size w w':=by
 have HB:=Aside0.mk (Below.refl w.heap.size w)
 have H : (if a1 > 9223372036854775808 then (some a0) else ((backfillref01_Mul.f a0 a1).bind fun bt410 => ((backfillref04_quotient.f k bt410.1 bt410.2 9223372036854775808 false).bind fun bt412 => (some bt412.1)))) = some r:=h
 clear h
 by_cases c3 : a1 > 9223372036854775808
 ·rw [if_pos c3] at H
  have c3b0 : decide (9223372036854775808 < a1) = true:=decide_eq_true c3
  clear c3
  obtain rfl:=Option.some.inj H
  go_enter Tryd.func86,Tryd.ntmps86
  go_wp2
  go_ret
  exact ⟨by first | rfl | (simp [errW_none,errW_some] <;> rfl) | (simp [*,errW_none,errW_some] <;> rfl),bA⟩
 ·rw [if_neg c3] at H
  have c3b0 : decide (9223372036854775808 < a1) = false:=decide_eq_false c3
  clear c3;replace H:=Option.bind_eq_some_iff.mp H;obtain ⟨⟨t410,t411⟩,A40,H⟩:=H;replace H : ((backfillref04_quotient.f k t410 t411 9223372036854775808 false).bind fun bt412 => (some bt412.1)) = some r:=H;have A4:=Aside0.mk A40;clear A40;replace H:=Option.bind_eq_some_iff.mp H;obtain ⟨⟨t412,t413⟩,A50,H⟩:=H;replace H : (some t412) = some r:=H;have A5:=Aside0.mk A50;clear A50
  obtain rfl:=Option.some.inj H
  go_enter Tryd.func86,Tryd.ntmps86
  go_wp2_with (first | ((with_reducible refine gate_callee (f:=78) rfl ?_);refine goesL_ (some 13) rfl rfl Tryd.func78 (by kernel_rfl) rfl #[.int .u64 a0,.int .u64 a1] rfl aA ?_;(with_reducible refine (backfillref01_Mul.calls a0 a1 t410 t411 _ A4.out).mono ?_);rintro e w6 ⟨rfl,hb⟩;refine ⟨_,rfl,?_⟩;have n0_:=Aside0.mk (below_step bA hb);clear HB;have HB:=n0_;clear n0_;(try clear hb)) | ((with_reducible refine gate_callee (f:=98) rfl ?_);refine goesL_ (some 14) rfl rfl Tryd.func98 (by kernel_rfl) rfl #[.agg #[.int .u64 t410,.int .u64 t411],.int .u64 9223372036854775808,.bool false] rfl aA ?_;(with_reducible refine (backfillref04_quotient.calls k t410 t411 9223372036854775808 false t412 t413 _ A5.out).mono ?_);rintro e w7 ⟨rfl,hb⟩;refine ⟨_,rfl,?_⟩;have n0_:=Aside0.mk (below_step bA hb);clear HB;have HB:=n0_;clear n0_;(try clear hb)))
  go_ret
  exact ⟨by first | rfl | (simp [errW_none,errW_some] <;> rfl) | (simp [*,errW_none,errW_some] <;> rfl),bA⟩

def backfillref10_Fade.f (k : Nat) (a0 : Int) (a1 : Int) : Option (Int):=(backfillref04_Part.f k a0 a1).bind fun t414 => (some t414)
theorem backfillref10_Fade.mono : ∀ a0 a1 k,LeO (backfillref10_Fade.f k a0 a1) (backfillref10_Fade.f (k + 1) a0 a1):=by
 intro a0 a1 k
 unfold backfillref10_Fade.f
 repeat' first
   | (with_reducible exact backfillref04_Part.mono _ _ _)
   | (with_reducible exact LeO.refl _)
   | (with_reducible exact LeO.none _)
   | (with_reducible refine LeO.ite ?_ ?_)
   | (with_reducible refine LeO.bind ?_ (fun _ => ?_))
   | exact backfillref04_Part.mono _ _ _
   | exact LeO.none _
   | refine LeO.ite ?_ ?_
   | refine LeO.bind ?_ (fun _ => ?_)
set_option maxHeartbeats 8000000 in
set_option maxRecDepth 100000 in
theorem backfillref10_Fade.calls (k : Nat) (a0 : Int) (a1 : Int) (r : Int) (w : World) (h : backfillref10_Fade.f k a0 a1 = some r) :
  Calls Tryd.prog 61 #[.int .u64 a0,.int .u64 a1] w fun e w' => e = .returned (.int .u64 r) ∧ Below w.heap.size w w':=by
 have HB:=Aside0.mk (Below.refl w.heap.size w)
 have H : ((backfillref04_Part.f k a0 a1).bind fun t414 => (some t414)) = some r:=h
 clear h;replace H:=Option.bind_eq_some_iff.mp H;obtain ⟨t414,A30,H⟩:=H;replace H : (some t414) = some r:=H;have A3:=Aside0.mk A30;clear A30
 obtain rfl:=Option.some.inj H
 go_enter Tryd.func61,Tryd.ntmps61
 go_wp2_with (first | ((with_reducible refine gate_callee (f:=86) rfl ?_);refine goesL_ (some 7) rfl rfl Tryd.func86 (by kernel_rfl) rfl #[.int .u64 a0,.int .u64 a1] rfl aA ?_;(with_reducible refine (backfillref04_Part.calls k a0 a1 t414 _ A3.out).mono ?_);rintro e w4 ⟨rfl,hb⟩;refine ⟨_,rfl,?_⟩;have n0_:=Aside0.mk (below_step bA hb);clear HB;have HB:=n0_;clear n0_;(try clear hb)))
 go_ret
 exact ⟨by first | rfl | (simp [errW_none,errW_some] <;> rfl) | (simp [*,errW_none,errW_some] <;> rfl),bA⟩




end Go.Proofs.YtgjjfnjnjnbfgaaDoor.GLG
namespace Go.Proofs.YtgjjfnjnjnbfgaaDoor.Q
open Go.RowKit Go.Proofs.YtgjjfnjnjnbfgaaDoor.GLG Go.Proofs.YtgjjfnjnjnbfgaaDoorW.PrintWords Go.Proofs.YtgjjfnjnjnbfgaaDoorW.PrintLast Go.Proofs.YtgjjfnjnjnbfgaaDoorW.PrintMore
theorem rmul {a b : Int} (ha : U a) (hb : U b) : backfillref01_Mul.f a b = some (a * b / 18446744073709551616,a * b % 18446744073709551616):=by
  unfold backfillref01_Mul.f
  have e:=mul_halves a b
  obtain ⟨a0,a1⟩:=ha
  obtain ⟨b0,b1⟩:=hb
  rw [and32 ⟨a0,a1⟩,and32 ⟨b0,b1⟩]
  have p1:=half_bd (x:=a / 4294967296) (y:=b / 4294967296) (by omega) (by omega) (by omega) (by omega)
  have p2:=half_bd (x:=a / 4294967296) (y:=b % 4294967296) (by omega) (by omega) (by omega) (by omega)
  have p3:=half_bd (x:=a % 4294967296) (y:=b / 4294967296) (by omega) (by omega) (by omega) (by omega)
  have p4:=half_bd (x:=a % 4294967296) (y:=b % 4294967296) (by omega) (by omega) (by omega) (by omega)
  generalize (a / 4294967296) * (b / 4294967296) = x1 at *
  generalize (a / 4294967296) * (b % 4294967296) = x2 at *
  generalize (a % 4294967296) * (b / 4294967296) = x3 at *
  generalize (a % 4294967296) * (b % 4294967296) = x4 at *
  generalize a * b = y at *
  rw [w64_in (x:=x4) (by omega) (by omega),w64_in (x:=x2) (by omega) (by omega),w64_in (x:=x3) (by omega) (by omega),w64_in (x:=x1) (by omega) (by omega)]
  rw [and32 (x:=x2) ⟨by omega,by omega⟩,and32 (x:=x3) ⟨by omega,by omega⟩,and32 (x:=x4) ⟨by omega,by omega⟩]
  simp only [w64]
  congr 2 <;> omega
end Go.Proofs.YtgjjfnjnjnbfgaaDoor.Q
namespace Go.Proofs.YtgjjfnjnjnbfgaaDoor.Q
open Go.RowKit Go.Proofs.YtgjjfnjnjnbfgaaDoor.GLG Go.Proofs.YtgjjfnjnjnbfgaaDoorW.PrintWords Go.Proofs.YtgjjfnjnjnbfgaaDoorW.PrintLast Go.Proofs.YtgjjfnjnjnbfgaaDoorW.PrintMore
theorem radd {ah al bh bl : Int} (h1 : U ah) (h2 : U al) (h3 : U bh) (h4 : U bl) : backfillref01_Add.f ah al bh bl = some (addV (V ah al) (V bh bl)):=by
  unfold backfillref01_Add.f backfillref01_greatest.f addV V
  obtain ⟨h1a,h1b⟩:=h1;obtain ⟨h2a,h2b⟩:=h2;obtain ⟨h3a,h3b⟩:=h3;obtain ⟨h4a,h4b⟩:=h4
  simp only [Option.bind_some,w64]
  by_cases hl : (al + bl) % 18446744073709551616 < al
  · rw [if_pos hl]
    by_cases hh : (ah + bh) % 18446744073709551616 ≥ ah
    · rw [if_pos hh]
      by_cases hz : ((ah + bh) % 18446744073709551616 + 1) % 18446744073709551616 > 0
      · rw [if_pos hz,if_pos (by omega)]
        congr 2
        · omega
        · congr 1
          omega
      · rw [if_neg hz,if_neg (by omega)]
    · rw [if_neg hh,if_neg (by omega)]
  · rw [if_neg hl]
    by_cases hh : (ah + bh) % 18446744073709551616 ≥ ah
    · rw [if_pos hh,if_pos (by omega)]
      congr 2
      · omega
      · congr 1
        omega
    · rw [if_neg hh,if_neg (by omega)]
end Go.Proofs.YtgjjfnjnjnbfgaaDoor.Q
namespace Go.Proofs.YtgjjfnjnjnbfgaaDoor.Q
open Go.RowKit Go.Proofs.YtgjjfnjnjnbfgaaDoor.GLG Go.Proofs.YtgjjfnjnjnbfgaaDoorW.PrintWords Go.Proofs.YtgjjfnjnjnbfgaaDoorW.PrintLast Go.Proofs.YtgjjfnjnjnbfgaaDoorW.PrintMore
theorem rshl {h l : Int} (hh : U h) (hl : U l) (n : Nat) (h0 : 0 < n) (h1 : n < 64) : backfillref01_Shl.f h l (n : Int) = some (shlV h l n):=by
  unfold backfillref01_Shl.f shlV
  rw [if_neg (by omega),if_neg (by omega),if_neg (by omega),if_pos (by omega),wrap64_in (by omega) (by omega),if_pos (by omega)]
  rw [show (64 - (n : Int)) = ((64 - n : Nat) : Int) by omega,shl_at n (by omega),shr_at (64 - n) (by omega),shl_at n (by omega)]
  have d:=shl_sum hh hl n (by omega)
  rw [w64_in d.1 d.2]
end Go.Proofs.YtgjjfnjnjnbfgaaDoor.Q
namespace Go.Proofs.YtgjjfnjnjnbfgaaDoor.Q
open Go.RowKit Go.Proofs.YtgjjfnjnjnbfgaaDoor.GLG Go.Proofs.YtgjjfnjnjnbfgaaDoorW.PrintWords Go.Proofs.YtgjjfnjnjnbfgaaDoorW.PrintLast Go.Proofs.YtgjjfnjnjnbfgaaDoorW.PrintMore
theorem shl1V {h l : Int} (hh : U h) (hl : U l) : backfillref01_Shl.f h l 1 = some (2 * V h l % 340282366920938463463374607431768211456 / 18446744073709551616,2 * V h l % 18446744073709551616):=by
  have:=rshl hh hl 1 (by decide) (by decide)
  rw [show ((1 : Nat) : Int) = 1 from rfl] at this
  rw [this]
  unfold shlV V
  obtain ⟨a,b⟩:=hh;obtain ⟨c,d⟩:=hl
  congr 2 <;> simp <;> omega
end Go.Proofs.YtgjjfnjnjnbfgaaDoor.Q
namespace Go.Proofs.YtgjjfnjnjnbfgaaDoor.Q
open Go.RowKit Go.Proofs.YtgjjfnjnjnbfgaaDoor.GLG Go.Proofs.YtgjjfnjnjnbfgaaDoorW.PrintWords Go.Proofs.YtgjjfnjnjnbfgaaDoorW.PrintLast Go.Proofs.YtgjjfnjnjnbfgaaDoorW.PrintMore
/-- Long division by bits: what is left of the digits,the quotient and the rest so far. -/
def divS (b : Int) : Nat → Int → Int → Int → Int × Int
  | 0,rest,_,q => (q,rest)
  | d + 1,rest,x,q => if 2 * rest + x / 170141183460469231731687303715884105728 ≥ b then divS b d (2 * rest + x / 170141183460469231731687303715884105728 - b) (2 * x % 340282366920938463463374607431768211456) (2 * q + 1)
      else divS b d (2 * rest + x / 170141183460469231731687303715884105728) (2 * x % 340282366920938463463374607431768211456) (2 * q)
theorem divS_eq {b : Int} (hb : 0 < b) (d : Nat) : ∀ (rest x q A : Int),0 ≤ rest → rest < b → 0 ≤ x → x < 340282366920938463463374607431768211456 → x * 2 ^ d = A * 340282366920938463463374607431768211456 →
    divS b d rest x q = (q * 2 ^ d + (rest * 2 ^ d + A) / b,(rest * 2 ^ d + A) % b):=by
  induction d with
  | zero =>
    intro rest x q A h0 h1 h2 h3 h4
    have hA : A = 0:=by omega
    subst hA
    simp only [divS]
    rw [show rest * 2 ^ 0 + 0 = rest by omega,Int.ediv_eq_zero_of_lt h0 h1,Int.emod_eq_of_lt h0 h1]
    congr 1
    omega
  | succ d ih =>
    intro rest x q A h0 h1 h2 h3 h4
    have hp : (2 : Int) ^ (d + 1) = 2 * 2 ^ d:=by rw [Int.pow_succ,Int.mul_comm]
    rw [hp] at h4 ⊢
    simp only [divS]
    have hx : ∃ t X,(t = 0 ∨ t = 1) ∧ x = t * 170141183460469231731687303715884105728 + X ∧ 0 ≤ X ∧ X < 170141183460469231731687303715884105728:=⟨x / 170141183460469231731687303715884105728,x % 170141183460469231731687303715884105728,by omega,by omega,by omega,by omega⟩
    obtain ⟨t,X,ht,rfl,hX0,hX1⟩:=hx
    generalize hT : (2 : Int) ^ d = T at *
    have e1 : (t * 170141183460469231731687303715884105728 + X) / 170141183460469231731687303715884105728 = t:=by omega
    have e2 : 2 * (t * 170141183460469231731687303715884105728 + X) % 340282366920938463463374607431768211456 = 2 * X:=by omega
    rw [e1,e2]
    have h5 : (2 * X) * T = (A - t * T) * 340282366920938463463374607431768211456:=by
      have : (t * 170141183460469231731687303715884105728 + X) * (2 * T) = t * T * 340282366920938463463374607431768211456 + 2 * X * T:=by
        rw [Int.add_mul]
        congr 1
        · rcases ht with rfl | rfl <;> omega
        · rw [Int.mul_left_comm,Int.mul_assoc]
      rw [this] at h4
      rw [Int.sub_mul]
      omega
    have r2 : (2 * rest + t) * T = 2 * (rest * T) + t * T:=by rw [Int.add_mul,Int.mul_assoc]
    have r3 : rest * (2 * T) = 2 * (rest * T):=by rw [Int.mul_left_comm]
    by_cases c : 2 * rest + t ≥ b
    · rw [if_pos c,ih _ _ _ (A - t * T) (by omega) (by omega) (by omega) (by omega) h5,Int.sub_mul,r2,r3]
      have e3 : 2 * (rest * T) + A = (2 * (rest * T) + t * T - b * T + (A - t * T)) + b * T:=by omega
      rw [e3,Int.add_mul_ediv_left _ _ (by omega),Int.add_mul_emod_self_left]
      congr 1
      rw [Int.add_mul,Int.mul_assoc,Int.mul_left_comm q 2 T]
      omega
    · rw [if_neg c,ih _ _ _ (A - t * T) (by omega) (by omega) (by omega) (by omega) h5,r2,r3]
      have e3 : 2 * (rest * T) + A = 2 * (rest * T) + t * T + (A - t * T):=by omega
      rw [e3,Int.mul_assoc,Int.mul_left_comm q 2 T]
theorem rdiv_l0 {b : Int} (hb : U b) (hb0 : 0 < b) (d : Nat) : ∀ (k : Nat) (i rest ah al qh ql : Int),d < k → d ≤ 128 → i = 128 - (d : Int) → U ah → U al → U qh → U ql → 0 ≤ rest → rest < b → (V qh ql + 1) * 2 ^ d ≤ 340282366920938463463374607431768211456 →
    backfillref01_Div.l0 k b rest i ah al qh ql = some ((divS b d rest (V ah al) (V qh ql)).1 / 18446744073709551616,(divS b d rest (V ah al) (V qh ql)).1 % 18446744073709551616,(divS b d rest (V ah al) (V qh ql)).2,true):=by
  induction d with
  | zero =>
    intro k i rest ah al qh ql hk _ hi h1 h2 h3 h4 h5 h6 h7
    obtain ⟨k,rfl⟩ : ∃ m,k = m + 1:=⟨k - 1,by omega⟩
    simp only [backfillref01_Div.l0,divS]
    rw [if_neg (by omega),V_hi h4,V_lo h4]
  | succ d ih =>
    intro k i rest ah al qh ql hk hd hi h1 h2 h3 h4 h5 h6 h7
    obtain ⟨k,rfl⟩ : ∃ m,k = m + 1:=⟨k - 1,by omega⟩
    simp only [backfillref01_Div.l0]
    rw [if_pos (by omega),shl1V h1 h2,shl1V h3 h4]
    simp only [Option.bind_some]
    have hT : (0 : Int) < 2 ^ d:=pow_pos_ d
    have hp : (2 : Int) ^ (d + 1) = 2 * 2 ^ d:=by rw [Int.pow_succ,Int.mul_comm]
    rw [hp] at h7
    obtain ⟨h1a,h1b⟩:=h1;obtain ⟨h2a,h2b⟩:=h2;obtain ⟨h3a,h3b⟩:=h3;obtain ⟨h4a,h4b⟩:=h4;obtain ⟨hba,hbb⟩:=hb
    have hQ : 2 * V qh ql + 2 ≤ 340282366920938463463374607431768211456:=by
      have : (V qh ql + 1) * (2 * 1) ≤ (V qh ql + 1) * (2 * 2 ^ d):=Int.mul_le_mul_of_nonneg_left (by omega) (by unfold V;omega)
      omega
    have hbit : V ah al / 170141183460469231731687303715884105728 = ah / 9223372036854775808:=by unfold V;omega
    have hA : V (2 * V ah al % 340282366920938463463374607431768211456 / 18446744073709551616) (2 * V ah al % 18446744073709551616) = 2 * V ah al % 340282366920938463463374607431768211456:=by unfold V;omega
    have hQ0 : V (2 * V qh ql % 340282366920938463463374607431768211456 / 18446744073709551616) (2 * V qh ql % 18446744073709551616) = 2 * V qh ql:=by unfold V at hQ ⊢;omega
    have hQ1 : V (2 * V qh ql % 340282366920938463463374607431768211456 / 18446744073709551616) (IntKind.u64.wrap (2 * V qh ql % 18446744073709551616 + 1)) = 2 * V qh ql + 1:=by rw [w64];unfold V at hQ ⊢;omega
    have m0 : (2 * V qh ql + 1) * 2 ^ d ≤ 340282366920938463463374607431768211456:=by
      have : (2 * V qh ql + 1) * 2 ^ d ≤ (V qh ql + 1) * (2 * 2 ^ d):=by
        rw [Int.mul_left_comm,← Int.mul_assoc]
        exact Int.mul_le_mul_of_nonneg_right (by omega) (by omega)
      omega
    have m1 : (2 * V qh ql + 1 + 1) * 2 ^ d ≤ 340282366920938463463374607431768211456:=by
      have : (2 * V qh ql + 1 + 1) * 2 ^ d ≤ (V qh ql + 1) * (2 * 2 ^ d):=by
        rw [Int.mul_left_comm,← Int.mul_assoc]
        exact Int.mul_le_mul_of_nonneg_right (by omega) (by omega)
      omega
    have v0 : 0 ≤ V ah al ∧ V ah al < 340282366920938463463374607431768211456:=by unfold V;omega
    have v1 : 0 ≤ V qh ql ∧ V qh ql < 340282366920938463463374607431768211456:=by unfold V;omega
    have wi : wrap64 (i + 1) = i + 1:=wrap64_in (by omega) (by omega)
    have yes : (IntKind.u64.wrap ((IntKind.u64.wrap ((IntKind.u64.wrap (rest * 2)) + (ah / 9223372036854775808))) - b)) = (2 * rest + ah / 9223372036854775808 - b) % 18446744073709551616:=by
      simp only [w64];omega
    simp only [divS]
    rw [hbit,wi,yes]
    by_cases c : rest / 9223372036854775808 = 1
    · rw [if_pos c,if_pos (by omega)]
      rw [show (2 * rest + ah / 9223372036854775808 - b) % 18446744073709551616 = 2 * rest + ah / 9223372036854775808 - b by omega]
      rw [ih k (i + 1) _ _ _ _ _ (by omega) (by omega) (by omega) ⟨by omega,by omega⟩ (umod _) ⟨by omega,by omega⟩ ⟨by rw [w64];omega,by rw [w64];omega⟩ (by omega) (by omega) (by rw [hQ1];exact m1),hA,hQ1]
    · rw [if_neg c]
      have w1 : IntKind.u64.wrap ((IntKind.u64.wrap (rest * 2)) + (ah / 9223372036854775808)) = 2 * rest + ah / 9223372036854775808:=by simp only [w64];omega
      rw [w1]
      by_cases c2 : 2 * rest + ah / 9223372036854775808 ≥ b
      · rw [if_pos c2,if_pos c2]
        rw [show (2 * rest + ah / 9223372036854775808 - b) % 18446744073709551616 = 2 * rest + ah / 9223372036854775808 - b by omega]
        rw [ih k (i + 1) _ _ _ _ _ (by omega) (by omega) (by omega) ⟨by omega,by omega⟩ (umod _) ⟨by omega,by omega⟩ ⟨by rw [w64];omega,by rw [w64];omega⟩ (by omega) (by omega) (by rw [hQ1];exact m1),hA,hQ1]
      · rw [if_neg c2,if_neg c2]
        rw [ih k (i + 1) _ _ _ _ _ (by omega) (by omega) (by omega) ⟨by omega,by omega⟩ (umod _) ⟨by omega,by omega⟩ (umod _) (by omega) (by omega) (by rw [hQ0];exact m0),hA,hQ0]
theorem rdiv {ah al b : Int} (k : Nat) (hk : 129 ≤ k) (h1 : U ah) (h2 : U al) (hb : U b) (hb0 : b ≠ 0) :
    backfillref01_Div.f k ah al b = some (V ah al / b / 18446744073709551616,V ah al / b % 18446744073709551616,V ah al % b,true):=by
  unfold backfillref01_Div.f
  have hb1 : 0 < b:=by have:=hb.1;omega
  rw [if_neg hb0,rdiv_l0 hb hb1 128 k 0 0 ah al 0 0 (by omega) (by omega) (by omega) h1 h2 ⟨by omega,by omega⟩ ⟨by omega,by omega⟩ (by omega) (by omega) (by decide)]
  have v0 : 0 ≤ V ah al ∧ V ah al < 340282366920938463463374607431768211456:=by
    obtain ⟨h1a,h1b⟩:=h1;obtain ⟨h2a,h2b⟩:=h2
    unfold V;omega
  rw [divS_eq hb1 128 0 (V ah al) (V 0 0) (V ah al) (by omega) hb1 v0.1 v0.2 (by rfl)]
  simp [V]
end Go.Proofs.YtgjjfnjnjnbfgaaDoor.Q
namespace Go.Proofs.YtgjjfnjnjnbfgaaDoor.Q
open Go.RowKit Go.Proofs.YtgjjfnjnjnbfgaaDoor.GLG Go.Proofs.YtgjjfnjnjnbfgaaDoorW.PrintWords Go.Proofs.YtgjjfnjnjnbfgaaDoorW.PrintLast Go.Proofs.YtgjjfnjnjnbfgaaDoorW.PrintMore
theorem rq_small {h l : Int} (hh : 0 ≤ h) (hl : U l) : backfillref04_small.f h l = some (capV (V h l)):=by
  unfold backfillref04_small.f capV V
  obtain ⟨a,b⟩:=hl
  by_cases c : h > 0
  · rw [if_pos c,if_neg (by omega)]
  · rw [if_neg c,if_pos (by omega)]
    congr 2
    omega
theorem rq_quot {h l b : Int} (k : Nat) (hk : 129 ≤ k) (h1 : U h) (h2 : U l) (hb : U b) (hb0 : b ≠ 0) (hlt : V h l / b + 1 < 340282366920938463463374607431768211456) (up : Bool) :
    backfillref04_quotient.f k h l b up = some (capV (V h l / b + if (up && decide (V h l % b > 0)) = true then 1 else 0)):=by
  unfold backfillref04_quotient.f
  rw [rdiv k hk h1 h2 hb hb0]
  simp only [Option.bind_some,if_true]
  have d0 : 0 ≤ V h l / b:=Int.ediv_nonneg (by obtain ⟨a,_⟩:=h1;obtain ⟨c,_⟩:=h2;unfold V;omega) hb.1
  generalize V h l / b = q at *
  have hj : ∀ c : Bool,backfillref04_quotient.j0 k c (q / 18446744073709551616) (q % 18446744073709551616) = some (capV (q + if c = true then 1 else 0)):=by
    intro c
    obtain ⟨k,rfl⟩ : ∃ m,k = m + 1:=⟨k - 1,by omega⟩
    simp only [backfillref04_quotient.j0]
    cases c with
    | true =>
      simp only [if_true,backfillref04_up.f,backfillref01_Of.f,Option.bind_some]
      rw [radd ⟨by omega,by omega⟩ (umod _) ⟨by omega,by omega⟩ ⟨by omega,by omega⟩]
      simp only [Option.bind_some]
      rw [show addV (V (q / 18446744073709551616) (q % 18446744073709551616)) (V 0 1) = ((q + 1) / 18446744073709551616,(q + 1) % 18446744073709551616,true) by
        unfold addV
        rw [show V (q / 18446744073709551616) (q % 18446744073709551616) + V 0 1 = q + 1 by unfold V;omega,if_pos hlt]]
      simp only []
      rw [rq_small (by omega) (umod _)]
      simp only [Option.bind_some]
      rw [show V ((q + 1) / 18446744073709551616) ((q + 1) % 18446744073709551616) = q + 1 by unfold V;omega]
    | false =>
      rw [if_neg (by decide),rq_small (by omega) (umod _)]
      simp only [Option.bind_some]
      rw [show V (q / 18446744073709551616) (q % 18446744073709551616) = q by unfold V;omega]
      simp
  cases up with
  | true => rw [if_pos rfl,hj];simp
  | false => rw [if_neg (by decide),hj];simp
theorem rq_Of {n : Int} (h : n ≤ 9223372036854775807) : backfillref04_Of.f n = some (ofV n):=by
  unfold backfillref04_Of.f ofV capV
  by_cases c : n < 0
  · rw [if_pos c,if_pos c]
  · rw [if_neg c,if_neg c]
    by_cases d : n ≥ 4294967296
    · rw [if_pos d,if_neg (by omega)]
    · rw [if_neg d,if_pos (by omega),w64_in (x:=n) (by omega) (by omega),w64_in (by omega) (by omega)]
theorem rq_add {a b : Int} (ha : U a) (hb : U b) : backfillref04_Add.f a b = some (capV (a + b)):=by
  unfold backfillref04_Add.f backfillref01_Of.f
  simp only [Option.bind_some]
  rw [radd ⟨by omega,by omega⟩ ha ⟨by omega,by omega⟩ hb]
  simp only [Option.bind_some]
  obtain ⟨a0,a1⟩:=ha;obtain ⟨b0,b1⟩:=hb
  have e1 : V 0 a + V 0 b = a + b:=by unfold V;omega
  unfold addV
  rw [e1,if_pos (by omega)]
  simp only []
  rw [rq_small (by omega) (umod _)]
  simp only [Option.bind_some]
  rw [show V ((a + b) / 18446744073709551616) ((a + b) % 18446744073709551616) = a + b by unfold V;omega]
theorem rq_part {a f : Int} (k : Nat) (hk : 129 ≤ k) (ha : U a) (hf : U f) : backfillref04_Part.f k a f = some (partV a f):=by
  unfold backfillref04_Part.f
  have hl:=part_le ha hf
  unfold partV at hl ⊢
  by_cases c : f > 9223372036854775808
  · rw [if_pos c,if_pos c]
    congr 1
    omega
  · rw [if_neg c] at hl
    rw [if_neg c,if_neg c,rmul ha hf]
    simp only [Option.bind_some]
    have m:=mul_bd ha hf
    have hv : V (a * f / 18446744073709551616) (a * f % 18446744073709551616) = a * f:=by unfold V;omega
    rw [rq_quot k hk ⟨by omega,by omega⟩ (umod _) ⟨by omega,by omega⟩ (by omega) (by rw [hv];omega),hv]
    simp only [Option.bind_some]
    obtain ⟨a0,a1⟩:=ha
    have hlt : a * f / 9223372036854775808 < 18446744073709551616:=by omega
    simp [capV,hlt]
end Go.Proofs.YtgjjfnjnjnbfgaaDoor.Q
namespace Go.Proofs.YtgjjfnjnjnbfgaaDoor.Q
open Go.RowKit Go.Proofs.YtgjjfnjnjnbfgaaDoor.GLG Go.Proofs.YtgjjfnjnjnbfgaaDoorW.PrintWords Go.Proofs.YtgjjfnjnjnbfgaaDoorW.PrintLast Go.Proofs.YtgjjfnjnjnbfgaaDoorW.PrintMore
theorem rrungs : backfillref07_rungs.f = some rungsL:=rfl
theorem shr_bit (E d : Nat) (hE : E < 18446744073709551616) (hd : d < 64) : Go.bits .and .u64 (shr .u64 (E : Int) (d : Int)) 1 = ((bit E d : Nat) : Int):=by
  rw [shr_at d (by omega),and1]
  · unfold bit
    simp
  · have : (E : Int) / 2 ^ d = ((E / 2 ^ d : Nat) : Int):=by simp
    rw [this]
    have:=Nat.div_le_self E (2 ^ d)
    generalize E / 2 ^ d = z at *
    exact ⟨by omega,by omega⟩
theorem rgo : ∀ (d k : Nat) {E T : Nat} {x3 i : Int},d < k → d ≤ 32 → i = 33 - (d : Int) → 0 ≤ x3 → E < 18446744073709551616 → T ≤ 9223372036854775808 →
    backfillref07_Half.l0 k (E : Int) x3 rungsL (T : Int) i = some (shr .u64 ((hgo d E T : Nat) : Int) x3)
  | 0,k,E,T,x3,i,hk,_,hi,h3,_,_ => by
    obtain ⟨k,rfl⟩ : ∃ m,k = m + 1:=⟨k - 1,by omega⟩
    simp only [backfillref07_Half.l0]
    rw [if_neg (by omega),if_pos h3,hgo]
  | d + 1,k,E,T,x3,i,hk,hd,hi,h3,hE,hT => by
    obtain ⟨k,rfl⟩ : ∃ m,k = m + 1:=⟨k - 1,by omega⟩
    simp only [backfillref07_Half.l0]
    subst hi
    rw [if_pos (by omega),show wrap64 (32 - (33 - ((d + 1 : Nat) : Int))) = (d : Int) by rw [wrap64_in (by omega) (by omega)];omega,if_pos (by omega),shr_bit E d hE (by omega)]
    rw [show wrap64 (33 - ((d + 1 : Nat) : Int) + 1) = 33 - (d : Int) by rw [wrap64_in (by omega) (by omega)];omega]
    rw [show wrap64 (33 - ((d + 1 : Nat) : Int) - 1) = ((31 - d : Nat) : Int) by rw [wrap64_in (by omega) (by omega)];omega]
    have hb:=bit_lt E d
    have hr : rung d < 18446744073709551616:=rung_lt (d:=d) (by omega)
    rw [hgo]
    by_cases c : bit E d = 0
    · rw [if_neg (by omega),if_pos c]
      exact rgo d k (by omega) (by omega) rfl h3 hE hT
    · rw [if_pos (by omega),if_neg c,if_pos (by omega),if_pos (show ((31 - d : Nat) : Int) < (rungsL.length : Int) by rw [show rungsL.length = 32 from rfl];omega),rd_rung (by omega)]
      rw [rmul ⟨by omega,by omega⟩ ⟨by omega,by omega⟩]
      simp only [Option.bind_some]
      have e : (T : Int) * ((rung d : Nat) : Int) / 18446744073709551616 = ((T * rung d / BB : Nat) : Int):=by simp
      rw [e]
      refine rgo d k (by omega) (by omega) rfl h3 hE ?_
      apply Nat.div_le_of_le_mul
      rw [Nat.mul_comm BB]
      exact Nat.le_trans (Nat.mul_le_mul_left _ (Nat.le_of_lt hr)) (Nat.mul_le_mul_right _ hT)
theorem rhalf (k : Nat) (hk : 33 ≤ k) {e : Int} (h : U e) : backfillref07_Half.f k e = some ((HH e.toNat : Nat) : Int):=by
  obtain ⟨h0,h1⟩:=h
  obtain ⟨E,rfl⟩:=Int.eq_ofNat_of_zero_le h0
  rw [Int.toNat_natCast]
  unfold backfillref07_Half.f HH
  by_cases c : E / 4294967296 ≥ 63
  · rw [if_pos (by omega),if_pos c];rfl
  · rw [if_neg (by omega),if_neg c,rrungs]
    simp only [Option.bind_some]
    have:=rgo 32 k (E:=E) (T:=9223372036854775808) (x3:=(E : Int) / 4294967296) (i:=1) (by omega) (by omega) (by omega) (by omega) (by omega) (by omega)
    rw [show ((9223372036854775808 : Nat) : Int) = 9223372036854775808 from rfl] at this
    rw [this,show (E : Int) / 4294967296 = ((E / 4294967296 : Nat) : Int) by omega,shr_at _ (by omega)]
    unfold gg
    simp
end Go.Proofs.YtgjjfnjnjnbfgaaDoor.Q
namespace Go.Proofs.YtgjjfnjnjnbfgaaDoor.Q
open Go.RowKit Go.Proofs.YtgjjfnjnjnbfgaaDoor.GLG Go.Proofs.YtgjjfnjnjnbfgaaDoorW.PrintWords Go.Proofs.YtgjjfnjnjnbfgaaDoorW.PrintLast Go.Proofs.YtgjjfnjnjnbfgaaDoorW.PrintMore
theorem rfactor (k : Nat) (hk : 40 ≤ k) (p h : Int) : backfillref10_Factor.f k p h = some (factV p h):=by
  unfold backfillref10_Factor.f factV
  obtain ⟨k,rfl⟩ : ∃ m,k = m + 1:=⟨k - 1,by omega⟩
  simp only [backfillref10_Factor.j0]
  by_cases c1 : p < 1
  · rw [if_pos c1,if_pos trivial,if_pos (by omega)]
  · by_cases c2 : p > 1048576
    · rw [if_neg c1,if_pos c2,if_pos trivial,if_pos (by omega)]
    · by_cases c3 : h < 1
      · rw [if_neg c1,if_neg c2,if_pos c3,if_pos trivial,if_pos (by omega)]
      · by_cases c4 : h > 1073741824
        · rw [if_neg c1,if_neg c2,if_neg c3,decide_eq_true c4,if_pos rfl,if_pos (by omega)]
        · rw [if_neg c1,if_neg c2,if_neg c3,decide_eq_false c4,if_neg (by decide),if_neg (c:=_ ∨ _) (by omega)]
          unfold backfillref10_Exponent.f
          rw [if_neg (by rw [w64_in (by omega) (by omega)];omega),exp_w (by omega) (by omega) (by omega) (by omega)]
          have:=exp_bd (p:=p) (h:=h) (by omega) (by omega) (by omega)
          simp only [Option.bind_some]
          rw [rhalf _ (by omega) ⟨by omega,by omega⟩]
          rfl
theorem rcharge {u n : Int} (hu : U u) (hn : n ≤ 9223372036854775807) : backfillref10_Charge.f u n = some (chargeV u n):=by
  unfold backfillref10_Charge.f chargeV
  by_cases c : n < 0
  · rw [if_pos c,if_pos c]
  · rw [if_neg c,if_neg c,rq_Of hn]
    unfold ofV
    rw [if_neg c]
    simp only [Option.bind_some]
    rw [rq_add hu (capU (by omega))]
    rfl
theorem rfade (k : Nat) (hk : 129 ≤ k) {u f : Int} (hu : U u) (hf : U f) : backfillref10_Fade.f k u f = some (partV u f):=by
  unfold backfillref10_Fade.f
  rw [rq_part k hk hu hf];rfl
end Go.Proofs.YtgjjfnjnjnbfgaaDoor.Q
namespace Go.Proofs.YtgjjfnjnjnbfgaaDoor.Q
open Go.RowKit Go.Proofs.YtgjjfnjnjnbfgaaDoor.GLG Go.Proofs.YtgjjfnjnjnbfgaaDoorW.PrintWords Go.Proofs.YtgjjfnjnjnbfgaaDoorW.PrintLast Go.Proofs.YtgjjfnjnjnbfgaaDoorW.PrintMore
theorem rtimes {h l y : Int} (hh : U h) (hl : U l) (hy : U y) : backfillref01_Times.f h l y = some (timesV h l y):=by
  unfold backfillref01_Times.f timesV
  rw [rmul hl hy,rmul hh hy]
  simp only [Option.bind_some]
  have m1:=mul_bd hl hy
  by_cases c : h * y / 18446744073709551616 > 0
  · rw [if_pos c,if_pos c];rfl
  · rw [if_neg c,if_neg c,radd ⟨by omega,by omega⟩ (umod' _) (umod' _) ⟨by omega,by omega⟩]
    simp only [Option.bind_some]
    rw [show V (l * y / 18446744073709551616) (l * y % 18446744073709551616) = l * y by unfold V;omega]
end Go.Proofs.YtgjjfnjnjnbfgaaDoor.Q
namespace Go.Proofs.YtgjjfnjnjnbfgaaDoor.Q
open Go.RowKit Go.Proofs.YtgjjfnjnjnbfgaaDoor.GLG Go.Proofs.YtgjjfnjnjnbfgaaDoorW.PrintWords Go.Proofs.YtgjjfnjnjnbfgaaDoorW.PrintLast Go.Proofs.YtgjjfnjnjnbfgaaDoorW.PrintMore
theorem rcmp_j {b : Bool} {ah al bh bl : Int} (k : Nat) (hk : 1 ≤ k) (h2 : U al) (h4 : U bl) (hb : b = decide (V ah al < V bh bl)) : backfillref01_Cmp.j0 k b ah al bh bl = some (cmpV (V ah al) (V bh bl)):=by
  obtain ⟨k,rfl⟩ : ∃ m,k = m + 1:=⟨k - 1,by omega⟩
  simp only [backfillref01_Cmp.j0]
  unfold cmpV
  subst hb
  by_cases c : V ah al < V bh bl
  · rw [if_pos c,if_pos (decide_eq_true c)]
  · rw [if_neg c,if_neg (by simpa using c)]
    unfold V at c ⊢
    obtain ⟨h2a,h2b⟩:=h2;obtain ⟨h4a,h4b⟩:=h4
    by_cases e : ah = bh ∧ al = bl
    · rw [if_pos (by simp [e.1,e.2]),if_pos (by omega)]
    · rw [if_neg (by simpa using e),if_neg (by omega)]
theorem rcmp {ah al bh bl : Int} (k : Nat) (hk : 1 ≤ k) (h2 : U al) (h4 : U bl) : backfillref01_Cmp.f k ah al bh bl = some (cmpV (V ah al) (V bh bl)):=by
  unfold backfillref01_Cmp.f
  have h2':=h2;have h4':=h4
  obtain ⟨h2a,h2b⟩:=h2;obtain ⟨h4a,h4b⟩:=h4
  by_cases c : ah < bh
  · rw [if_pos c]
    exact rcmp_j k hk h2' h4' (by unfold V;symm;rw [decide_eq_true_iff];omega)
  · rw [if_neg c]
    by_cases e : ah = bh
    · rw [if_pos e]
      exact rcmp_j k hk h2' h4' (by unfold V;congr 1;apply propext;omega)
    · rw [if_neg e]
      exact rcmp_j k hk h2' h4' (by unfold V;symm;rw [decide_eq_false_iff_not];omega)
end Go.Proofs.YtgjjfnjnjnbfgaaDoor.Q
namespace Go.Proofs.YtgjjfnjnjnbfgaaDoor.Q
open Go.RowKit Go.Proofs.YtgjjfnjnjnbfgaaDoor.GLG Go.Proofs.YtgjjfnjnjnbfgaaDoorW.PrintWords Go.Proofs.YtgjjfnjnjnbfgaaDoorW.PrintLast Go.Proofs.YtgjjfnjnjnbfgaaDoorW.PrintMore
theorem r_in (x lo hi : Int) : backfillref11_within.f x lo hi = some (within x lo hi):=by
  unfold backfillref11_within.f within
  by_cases c : x ≥ lo
  · rw [if_pos c];congr 1;by_cases d : x ≤ hi <;> simp [c,d]
  · rw [if_neg c];congr 1;simp;omega
theorem r_ranges (k : Nat) (hk : 3 ≤ k) (N Q L A F S P H : Int) : backfillref11_ranges.f k N Q L A F S P H = some (inR N Q L A F S P H):=by
  obtain ⟨k,rfl⟩ : ∃ m,k = m + 2:=⟨k - 2,by omega⟩
  unfold backfillref11_ranges.f inR
  simp only [backfillref11_ranges.j0,r_in,Option.bind_some]
  generalize within N 1 256 = b0
  generalize within Q 1 128 = b1
  generalize within L 1 1048576 = b2
  generalize within A 1 1048576 = b3
  generalize within F 0 1048576 = b4
  generalize within S 0 1048576 = b5
  generalize within P 1 1048576 = b6
  generalize within H 1 1073741824 = b7
  cases b0 <;> cases b1 <;> cases b2 <;> cases b3 <;> cases b4 <;> cases b5 <;> cases b6 <;> cases b7 <;> rfl
section
variable {N Q L A F S P H : Int} (B : Bds N Q L A F S P H)
include B
theorem r_C : backfillref11_C.f N Q L A F S P H = some (N * P):=by
  unfold backfillref11_C.f
  rw [wrap64_in (by have:=B.c0;omega) (by have:=B.c1;omega)]
theorem r_K : backfillref11_K.f N Q L A F S P H = some (keepV P H):=by
  obtain ⟨u0,u1⟩:=up_bd B.e0
  have e0:=B.e0;have e1:=B.e1;have p0:=B.p0;have p1:=B.p1;have h0:=B.h0;have h1:=B.h1
  unfold backfillref11_K.f backfillref10_Exponent.f
  rw [w64_in (x:=H) (by omega) (by omega),if_neg (by omega),w64_in (x:=P) (by omega) (by omega),w64_in (x:=P * 4294967296) (by omega) (by omega),tdiv_eq (by omega),show P * 4294967296 / H = eV P H from rfl,w64_in (x:=eV P H) (by omega) (by omega)]
  simp only [Option.bind_some]
  unfold backfillref11_up.f
  rw [wrap64_in (x:=eV P H) (by omega) (by omega),if_neg (by omega),wrap64_in (x:=8589934592 + eV P H) (by omega) (by omega),wrap64_in (x:=8589934592 + eV P H - 1) (by omega) (by omega),tdiv_eq (by omega),wrap64_in (x:=(8589934592 + eV P H - 1) / eV P H) (by omega) (by omega)]
  simp only [Option.bind_some]
  unfold keepV
  split <;> rfl
theorem r_M : backfillref11_M.f N Q L A F S P H = some (mostV N P H):=by
  unfold backfillref11_M.f
  rw [r_C B,r_K B]
  simp only [Option.bind_some]
  have m0:=B.m0;have m1:=B.m1;have k0:=B.k0
  rw [show N * P * keepV P H = mostV N P H from rfl,wrap64_in (by omega) (by omega)]
theorem r_lead : backfillref11_lead.f N Q L A F S P H = some (leadV N A F S):=by
  have a:=B.ld0;have b:=B.ld1;have c:=B.fs0;have d:=B.a0;have e:=B.sn0;have f:=B.sn1;have g:=B.fs1
  unfold backfillref11_lead.f
  rw [if_neg (by omega),wrap64_in (x:=S * N) (by omega) (by omega),show F + S * N = fsV N F S from rfl,wrap64_in (x:=fsV N F S) (by omega) (by omega),tdiv_eq c,show fsV N F S / A = leadV N A F S from rfl,wrap64_in (by omega) (by omega)]
theorem r_bound : backfillref11_bound.f N Q L A F S P H = some (boundV N Q L A F S):=by
  have a:=B.ld0;have b:=B.ld1;have c:=B.ql0;have d:=B.ql1
  unfold backfillref11_bound.f boundV
  rw [r_lead B]
  simp only [Option.bind_some]
  rw [wrap64_in (x:=leadV N A F S + 1) (by omega) (by omega),wrap64_in (x:=Q * L) (by omega) (by omega),wrap64_in (by omega) (by omega)]
theorem r_G (hm : mostV N P H ≤ 2147483648) : backfillref11_G.f N Q L A F S P H = some (gV N P H):=by
  obtain ⟨g0,g1,x0,x1,fx0,fx1,n0,n1⟩:=num_of B hm
  have m0:=B.m0;have k0:=B.k0
  unfold backfillref11_G.f
  rw [r_K B,r_M B]
  simp only [Option.bind_some]
  unfold backfillref11_up.f
  have hd : 0 ≤ (mostV N P H * 81 + 2147483648 - 1) / 2147483648:=Int.ediv_nonneg (by omega) (by omega)
  rw [if_neg (by decide),wrap64_in (x:=mostV N P H * 81) (by omega) (by omega),wrap64_in (x:=mostV N P H * 81 + 2147483648) (by omega) (by omega),wrap64_in (x:=mostV N P H * 81 + 2147483648 - 1) (by omega) (by omega),tdiv_eq (by omega),wrap64_in (x:=(mostV N P H * 81 + 2147483648 - 1) / 2147483648) (by omega) (by omega)]
  simp only [Option.bind_some]
  rw [wrap64_in (x:=1 + (mostV N P H * 81 + 2147483648 - 1) / 2147483648) (by omega) (by omega),show keepV P H * (1 + (mostV N P H * 81 + 2147483648 - 1) / 2147483648) = gV N P H from rfl,wrap64_in (by omega) (by omega)]
theorem r_bounds (hm : mostV N P H ≤ 2147483648) : backfillref11_off.f N Q L A F S P H = some (bndV N F P H):=by
  obtain ⟨g0,g1,x0,x1,fx0,fx1,n0,n1⟩:=num_of B hm
  have c0:=B.c0;have c1:=B.c1;have f0:=B.f0;have f1:=B.f1;have m0:=B.m0;have k0:=B.k0
  unfold backfillref11_off.f bndV backfillref01_Of.f
  by_cases c : F = 0
  · rw [if_pos c,if_pos c];rfl
  · rw [if_neg c,if_neg c,r_C B,r_G B hm]
    simp only [Option.bind_some]
    rw [wrap64_in (x:=2 * (N * P)) (by omega) (by omega),w64_in (x:=N * P) (by omega) (by omega),w64_in (x:=gV N P H) (by omega) (by omega),w64_in (x:=2 * (N * P)) (by omega) (by omega),w64_in (x:=F) (by omega) (by omega)]
    rw [rmul (a:=N * P) ⟨by omega,by omega⟩ ⟨by omega,by omega⟩,rmul (a:=258048) ⟨by omega,by omega⟩ ⟨by omega,by omega⟩]
    simp only [Option.bind_some]
    rw [radd ⟨by omega,by omega⟩ (umod' _) ⟨by omega,by omega⟩ ⟨by omega,by omega⟩]
    simp only [Option.bind_some]
    have e0 : addV (V (258048 * gV N P H / 18446744073709551616) (258048 * gV N P H % 18446744073709551616)) (V 0 (2 * (N * P))) = (xV N P H / 18446744073709551616,xV N P H % 18446744073709551616,true):=by
      unfold addV
      have : V (258048 * gV N P H / 18446744073709551616) (258048 * gV N P H % 18446744073709551616) + V 0 (2 * (N * P)) = xV N P H:=by unfold V xV;omega
      rw [this,if_pos (by omega)]
    rw [e0]
    dsimp only
    rw [rtimes ⟨by omega,by omega⟩ (umod' _) ⟨by omega,by omega⟩]
    have ht:=times_fits (q:=xV N P H) (y:=F) x0 f0 (by rw [Int.mul_comm];omega)
    rw [ht]
    simp only [Option.bind_some]
    rw [Int.mul_comm (xV N P H) F]
    rw [radd ⟨by omega,by omega⟩ (umod' _) ⟨by omega,by omega⟩ (umod' _)]
    simp only [Option.bind_some]
    unfold addV
    have e1 : V (F * xV N P H / 18446744073709551616) (F * xV N P H % 18446744073709551616) + V (N * P * 4294967296 / 18446744073709551616) (N * P * 4294967296 % 18446744073709551616) = numV N F P H:=by
      unfold V numV denV
      omega
    rw [e1,if_pos (by omega)]
    rfl
end
theorem r_check (k : Nat) (hk : 3 ≤ k) (N Q L A F S P H : Int) : backfillref11_Check.f k N Q L A F S P H = some (checkV N Q L A F S P H):=by
  unfold backfillref11_Check.f checkV
  rw [r_ranges k hk]
  simp only [Option.bind_some]
  by_cases c : inR N Q L A F S P H = true
  · have B:=bds (inR_cfg c)
    have fs0:=B.fs0;have fs1:=B.fs1;have a0:=B.a0;have a1:=B.a1;have s0:=B.sn0;have s1:=B.sn1;have f0:=B.f0;have f1:=B.f1;have ab0:=B.ab0;have ab1:=B.ab1
    rw [if_pos c,if_pos c,r_M B]
    simp only [Option.bind_some]
    by_cases d : mostV N P H > 2147483648
    · rw [if_pos d,if_pos d]
    · rw [if_neg d,if_neg d]
      have e1 : A * 1099511627776 + F + S * N = A * 1099511627776 + fsV N F S:=by unfold fsV;omega
      rw [wrap64_in (x:=A * 1099511627776) (by omega) (by omega),wrap64_in (x:=A * 1099511627776 + F) (by omega) (by omega),wrap64_in (x:=S * N) (by omega) (by omega),wrap64_in (x:=A * 1099511627776 + F + S * N) (by omega) (by omega),e1]
      by_cases e : A * 1099511627776 + fsV N F S ≥ 4611686018427387904
      · rw [if_pos e,if_pos e]
      · rw [if_neg e,if_neg e,r_bounds B (by omega),r_bound B]
        simp only [Option.bind_some]
        obtain ⟨u0,u1,u2,u3⟩:=bnd_U B (show mostV N P H ≤ 2147483648 by omega)
        have e2 : A * boundV N Q L A F S + F + S * N = A * boundV N Q L A F S + fsV N F S:=by unfold fsV;omega
        rw [wrap64_in (x:=A * boundV N Q L A F S) (by omega) (by omega),wrap64_in (x:=A * boundV N Q L A F S + F) (by omega) (by omega),wrap64_in (x:=A * boundV N Q L A F S + F + S * N) (by omega) (by omega),e2,w64_in (x:=A * boundV N Q L A F S + fsV N F S) (by omega) (by omega)]
        rw [rtimes u0 u1 ⟨by omega,by omega⟩,rtimes u2 u3 ⟨by omega,by omega⟩]
        simp only [Option.bind_some]
        rw [rcmp k (by omega) times_U times_U]
        simp only [Option.bind_some]
        unfold offV
        split <;> rfl
  · rw [if_neg c,if_neg c]
end Go.Proofs.YtgjjfnjnjnbfgaaDoor.Q
namespace Go.Proofs.YtgjjfnjnjnbfgaaDoor.L
open Go.RowKit Go.Proofs.YtgjjfnjnjnbfgaaDoorW.PrintWords Go.Proofs.YtgjjfnjnjnbfgaaDoorW.PrintLast Go.Proofs.YtgjjfnjnjnbfgaaDoor.H Go.Proofs.YtgjjfnjnjnbfgaaDoor.Q Go.Proofs.YtgjjfnjnjnbfgaaDoor.GLG
set_option linter.unusedVariables false
theorem rcharge_calls (w : World) (u n : Int) (hu : U u) (hn : n ≤ 9223372036854775807) : Calls Tryd.prog 60 #[.int .u64 u,.int .i64 n] w fun e w' => e = .returned (.int .u64 (chargeV u n)) ∧ Below w.heap.size w w':=
  backfillref10_Charge.calls u n _ w (rcharge hu hn)
theorem rfade_calls (w : World) (u f : Int) (hu : U u) (hf : U f) : Calls Tryd.prog 61 #[.int .u64 u,.int .u64 f] w fun e w' => e = .returned (.int .u64 (partV u f)) ∧ Below w.heap.size w w':=
  backfillref10_Fade.calls 200 u f _ w (rfade 200 (by omega) hu hf)
theorem rfactor_calls (w : World) (p h : Int) : Calls Tryd.prog 33 #[.int .i64 p,.int .i64 h] w fun e w' => e = .returned (.tuple #[.int .u64 (factV p h).1,.int .i64 (factV p h).2]) ∧ Below w.heap.size w w':=
  backfillref10_Factor.calls 200 p h _ _ w (rfactor 200 (by omega) p h)
theorem rcheck_calls (w : World) (a0 a1 a2 a3 a4 a5 a6 a7 : Int) : Calls Tryd.prog 32 #[.agg #[.int .i64 a0,.int .i64 a1,.int .i64 a2,.int .i64 a3,.int .i64 a4,.int .i64 a5,.int .i64 a6,.int .i64 a7]] w fun e w' => e = .returned (.int .i64 (checkV a0 a1 a2 a3 a4 a5 a6 a7)) ∧ Below w.heap.size w w':=
  backfillref11_Check.calls 10 a0 a1 a2 a3 a4 a5 a6 a7 _ w (r_check 10 (by omega) a0 a1 a2 a3 a4 a5 a6 a7)
end Go.Proofs.YtgjjfnjnjnbfgaaDoor.L
namespace Go.Proofs.YtgjjfnjnjnbfgaaDoor.L
open Go.RowKit Go.Proofs.YtgjjfnjnjnbfgaaDoorW.PrintWords Go.Proofs.YtgjjfnjnjnbfgaaDoorW.PrintLast Go.Proofs.YtgjjfnjnjnbfgaaDoor.H Go.Proofs.YtgjjfnjnjnbfgaaDoor.Q Go.Proofs.YtgjjfnjnjnbfgaaDoor.GLG
set_option linter.unusedVariables false
set_option linter.unusedSimpArgs false
structure Cf where
  a0 : Int
  a1 : Int
  a2 : Int
  a3 : Int
  a4 : Int
  a5 : Int
  a6 : Int
  a7 : Int
def refC (k : Cf) (factor : Int) (A : Option Addr) (n c : Nat) : Array Value:=#[.int .i64 k.a0,.int .i64 k.a1,.int .i64 k.a2,.int .i64 k.a3,.int .i64 k.a4,.int .i64 k.a5,.int .i64 k.a6,.int .i64 k.a7,.int .u64 factor,.slice A n c]
/-- A ledger of the document at block g. -/
structure RefAt (w : World) (B g : Nat) (A : Option Addr) (n c : Nat) (k : Cf) (factor : Int) (xs : List Int) : Prop where
  blk : w.heap[g]? = some (.cells (refC k factor A n c) 73 (0,0))
  own : w.ownsRow B 28 (Ei .u64).sz (.slice A n c) n (flat (Ei .u64) xs)
  len : xs.length = n
  ne : ∀ ad,A = some ad → ad.block ≠ g
  base : B ≤ g
  val : ∀ x ∈ xs,U x
  fac : U factor
  nod : 0 ≤ k.a0 ∧ k.a0 ≤ 9223372036854775807
section
variable {w w' : World} {B g : Nat} {A : Option Addr} {n c : Nat} {k : Cf} {factor : Int} {xs : List Int}
theorem RefAt.tn {F : Nat → Prop} (h : RefAt w B g A n c k factor xs) (hg : Tn w w' F) (hF : ∀ i,Foot g A i → ¬ F i) : RefAt w' B g A n c k factor xs:=
  ⟨blk_tn h.blk hg (hF g (.inl rfl)),own_tn h.own hg (fun i hk => hF i (.inr (by cases A with | none => simp [Value.ownBlock] at hk | some ad => exact ⟨ad,rfl,by simpa [Value.ownBlock] using hk.symm⟩))),h.len,h.ne,h.base,h.val,h.fac,h.nod⟩
theorem RefAt.gb (h : RefAt w B g A n c k factor xs) (hg : w.grownBy w' none) : RefAt w' B g A n c k factor xs:=h.tn (Tn.gb0 hg (fun _ => False)) (fun _ _ => id)
theorem RefAt.rd (h : RefAt w B g A n c k factor xs) : Rd (Ei .u64) w A n xs:=own_rd h.len h.own
theorem RefAt.lt (h : RefAt w B g A n c k factor xs) : g < w.heap.size:=blk_lt' h.blk
theorem RefAt.foot (h : RefAt w B g A n c k factor xs) : ∀ i,Foot g A i → B ≤ i ∧ i < w.heap.size:=by
  rintro i (rfl | ⟨ad,rfl,rfl⟩)
  · exact ⟨h.base,h.lt⟩
  · exact h.own.lt ad.block rfl
theorem RefAt.c0 (h : RefAt w B g A n c k factor xs) : w.cell? ⟨g,0,none⟩ = some (.int .i64 k.a0):=cell_of h.blk rfl
theorem RefAt.c8 (h : RefAt w B g A n c k factor xs) : w.cell? ⟨g,8,none⟩ = some (.int .u64 factor):=cell_of h.blk rfl
theorem RefAt.c9 (h : RefAt w B g A n c k factor xs) : w.cell? ⟨g,9,none⟩ = some (.slice A n c):=cell_of h.blk rfl
end
theorem ref_cell {w : World} {B g : Nat} {ab n c : Nat} {cf : Cf} {factor : Int} {xs : List Int} (h : RefAt w B g (some ⟨ab,0,none⟩) n c cf factor xs) (k : Nat) (hk : k < n) : w.cell? ⟨ab,k,none⟩ = some (.int .u64 (rd xs (k : Int))):=by
  have hk' : k < xs.length:=by rw [h.len];exact hk
  have:=own_cell h.own k 0 xs[k] (List.getElem?_eq_getElem hk') (by decide) (.int .u64 xs[k]) rfl
  simpa [Ei,rd,List.getD_eq_getElem?_getD,List.getElem?_eq_getElem hk'] using this
theorem ref_form {w : World} {B g : Nat} {A : Option Addr} {n c : Nat} {cf : Cf} {factor : Int} {xs : List Int} (h : RefAt w B g A n c cf factor xs) (hp : 0 < n) : ∃ ab,A = some ⟨ab,0,none⟩ ∧ ab ≠ g:=by
  obtain ⟨ad,rfl,_⟩:=h.rd.2.2 hp
  have h1:=(own_form h.own).2 ad rfl
  exact ⟨ad.block,by rw [← h1],h.ne ad rfl⟩
theorem RefAt.put {w : World} {B g : Nat} {ab n c : Nat} {cf : Cf} {factor : Int} {xs : List Int} (h : RefAt w B g (some ⟨ab,0,none⟩) n c cf factor xs) (k : Nat) (hk : k < n) (y : Int) (hy : U y) :
    RefAt (w.setCell ⟨ab,k,none⟩ (.int .u64 y)) B g (some ⟨ab,0,none⟩) n c cf factor (xs.set k y):=by
  have hne:=h.ne _ rfl
  have hk' : k < xs.length:=by rw [h.len];exact hk
  refine ⟨?_,?_,by rw [List.length_set];exact h.len,h.ne,h.base,?_,h.fac,h.nod⟩
  · exact blk_tn h.blk (Tn.set ab k (.int .u64 y) (F:=fun i => i = ab) rfl) (fun e => hne e.symm)
  · have:=own_put h.own k 0 xs[k] y (.int .u64 y) (List.getElem?_eq_getElem hk') (by decide) rfl
    simpa [Ei] using this
  · intro x hx
    rcases List.mem_or_eq_of_mem_set hx with h1 | rfl
    · exact h.val x h1
    · exact hy
set_option maxHeartbeats 8000000 in
set_option maxRecDepth 100000 in
theorem rOwn_calls (w : World) (g : Nat) (A : Option Addr) (n c : Nat) (xs : List Int) (a : Int) (hc : w.cell? ⟨g,9,none⟩ = some (.slice A n c)) (hr : Rd (Ei .u64) w A n xs) :
    Calls Tryd.prog 39 #[.pointer (some ⟨g,0,none⟩),.int .i64 a] w fun e w' => e = .returned (.int .u64 (ownV xs a)) ∧ w = w':=by
  have HN:=Aside0.mk hr.1
  have hl:=hr.2.1
  by_cases h0 : a < 0
  · have HE:=Aside0.mk (show ownV xs a = 0 by unfold ownV;rw [if_neg (by omega)])
    have hb : decide (a < 0) = true:=decide_eq_true h0
    clear h0 hr
    go_enter Tryd.func39,Tryd.ntmps39
    go_wp2
    go_ret
    exact ⟨by rw [HE.out];rfl,rfl⟩
  · have hb : decide (a < 0) = false:=decide_eq_false h0
    by_cases h1 : (n : Int) ≤ a
    · have HE:=Aside0.mk (show ownV xs a = 0 by unfold ownV;rw [if_pos (by omega)];simp [rd,List.getD_eq_getElem?_getD,List.getElem?_eq_none (show xs.length ≤ a.toNat by rw [HN.out];omega)])
      have hb1 : decide ((n : Int) ≤ a) = true:=decide_eq_true h1
      clear h0 hr h1
      go_enter Tryd.func39,Tryd.ntmps39
      go_wp2
      go_ret
      exact ⟨by rw [HE.out];rfl,rfl⟩
    · obtain ⟨k,rfl⟩ : ∃ k : Nat,a = k:=⟨a.toNat,by omega⟩
      have hk : k < n:=by omega
      obtain ⟨ad,rfl,hcell⟩:=hr.int k hk
      have HE:=Aside0.mk (show ownV xs (k : Int) = rd xs (k : Int) by unfold ownV;rw [if_pos (by omega)])
      have hb0 : decide ((k : Int) < 0) = false:=decide_eq_false (by omega)
      have hb1 : decide (n ≤ k) = false:=decide_eq_false (by omega)
      have hb2 : decide ((n : Int) ≤ (k : Int)) = false:=decide_eq_false (by omega)
      clear h0 hr h1
      go_enter Tryd.func39,Tryd.ntmps39
      go_wp2
      go_ret
      exact ⟨by rw [HE.out];rfl,rfl⟩
set_option maxHeartbeats 8000000 in
set_option maxRecDepth 100000 in
theorem rList_calls (w : World) (g : Nat) (A : Option Addr) (n c : Nat) (xs : List Int) (hc : w.cell? ⟨g,9,none⟩ = some (.slice A n c)) (hr : Rd (Ei .u64) w A n xs) (hs : n * 8 ≤ 140737488355328) :
    Calls Tryd.prog 34 #[.pointer (some ⟨g,0,none⟩)] w (NewRow w xs):=by
  have HR:=Aside0.mk hr
  have HN:=Aside0.mk hr.1
  have HN0:=Aside0.mk (show w.ownsRow w.heap.size 28 (Ei .u64).sz (.slice none 0 0) 0 (flat (Ei .u64) []) from own_nil _ _ _ _)
  clear hr
  go_enter Tryd.func34,Tryd.ntmps34
  go_wp2_with (at_builtin;refine app (Ei .u64) w.heap.size rfl (.tmp 4) (.tmp 8) 24 28 (.int .u64 0) 8 rfl Tryd.underlying24 (by kernel_rfl) rfl (by decide) _ 0 [] xs _ n _ rfl rfl rfl HN0.out HR.out (Nat.le_refl _) (by omega) ?_;intro v3 w3 ho hg hn;have HO3:=Aside0.mk ho;have HG3 : Aside0 (w.grownBy w3 none):=⟨hg⟩;clear ho hg hn)
  go_ret
  refine ⟨_,rfl,?_,HG3.out⟩
  have h:=HO3.out
  rw [List.nil_append,Nat.zero_add,← HN.out] at h
  exact h
theorem uwrap (x : Int) : IntKind.u64.wrap x = x % 18446744073709551616:=by
  simp [IntKind.wrap,IntKind.signed,IntKind.bits]
theorem sum_max {xs : List Int} (h : ∀ x ∈ xs,U x) : ∀ acc : List Int,acc.foldl (fun s a => (capV (s + ownV xs a)).1) 18446744073709551615 = 18446744073709551615
  | [] => rfl
  | a :: r => by
    have hu:=(ownU h a).1
    rw [List.foldl_cons,show (capV (18446744073709551615 + ownV xs a)).1 = 18446744073709551615 by unfold capV;split <;> simp <;> omega]
    exact sum_max h r
theorem sum_full {xs acc : List Int} {j : Nat} (h : ∀ x ∈ xs,U x) (hj : j < acc.length) (hs : 18446744073709551615 < sumV xs (acc.take j) + ownV xs (rd acc (j : Int))) : sumV xs acc = 18446744073709551615:=by
  have e : sumV xs (acc.take (j + 1)) = 18446744073709551615:=by
    rw [sum_step hj]
    unfold capV
    rw [if_neg (by omega)]
  have e2 : sumV xs acc = (acc.drop (j + 1)).foldl (fun s a => (capV (s + ownV xs a)).1) (sumV xs (acc.take (j + 1))):=by
    unfold sumV
    rw [← List.foldl_append,List.take_append_drop]
  rw [e2,e,sum_max h]
set_option maxHeartbeats 8000000 in
set_option maxRecDepth 100000 in
theorem rSum_calls (w : World) (B g : Nat) (A : Option Addr) (q c : Nat) (cf : Cf) (factor : Int) (xs : List Int) (D : Option Addr) (n d : Nat) (acc : List Int) (hL : RefAt w B g A q c cf factor xs) (hr : Rd (Ei .i64) w D n acc) :
    Calls Tryd.prog 18 #[.pointer (some ⟨g,0,none⟩),.slice D n d] w fun e w' => e = .returned (.int .u64 (sumV xs acc)) ∧ w.grownBy w' none:=by
  have HL:=Aside0.mk hL
  have HR:=Aside0.mk hr
  have HN:=Aside0.mk hr.1
  have hl:=hr.2.1
  clear hL hr
  go_enter Tryd.func18,Tryd.ntmps18
  go_wp2_with fail
  go_loopg [5,11] n (fun k v5 v11 wr => ∃ (j : Nat) (s : Int),v5 = .int .u64 s ∧ v11 = .int .i64 j ∧ Aside0 (j + k = n) ∧ j ≤ n ∧ Aside0 (s = sumV xs (acc.take j)) ∧ Aside0 (w.grownBy wr none))
  case atStart => exact ⟨0,0,rfl,rfl,⟨by omega⟩,by omega,⟨rfl⟩,⟨gb_refl _ _⟩⟩
  case round =>
    obtain ⟨j,s,rfl,rfl,HD,hj,HS,HG⟩:=hrel
    cases gk with
    | zero =>
      obtain rfl : j = n:=by have:=HD.out;omega
      go_wp2
      go_ret
      exact ⟨by rw [HS.out,List.take_of_length_le (by rw [HN.out];exact Nat.le_refl _)];rfl,HG.out⟩
    | succ k =>
      have hlt : j < n:=by have:=HD.out;omega
      have hb1 : decide (j < n) = true:=decide_eq_true hlt
      obtain ⟨ad,rfl,hc⟩:=(HR.out.gb HG.out).int j hlt
      have HLr:=Aside0.mk (HL.out.gb HG.out)
      have hUs : U s:=by rw [HS.out];exact sumU HL.out.val _
      have hUo:=ownU HL.out.val (rd acc (j : Int))
      obtain ⟨o,ho⟩ : ∃ o,ownV xs (rd acc (j : Int)) = o:=⟨_,rfl⟩
      have HO:=Aside0.mk (rOwn_calls wr g A q c xs (rd acc (j : Int)) HLr.out.c9 HLr.out.rd)
      rw [ho] at HO hUo
      have HE:=Aside0.mk ho
      clear ho
      obtain ⟨s0,s1⟩:=hUs
      obtain ⟨o0,o1⟩:=hUo
      by_cases hov : 18446744073709551615 < s + o
      · have HF:=Aside0.mk (sum_full HL.out.val (by rw [HN.out];exact hlt) (by rw [← HS.out,HE.out];exact hov))
        have hd : decide (IntKind.u64.wrap (s + o) < s) = true:=decide_eq_true (by rw [uwrap];omega)
        clear hov
        go_wp2_with fail
        refine (HO.out).mono ?_
        rintro e w1 ⟨rfl,rfl⟩
        go_wp2_with fail
        go_ret
        exact ⟨by rw [HF.out];rfl,HG.out⟩
      · have hd : decide (IntKind.u64.wrap (s + o) < s) = false:=decide_eq_false (by rw [uwrap];omega)
        have HW:=Aside0.mk (show IntKind.u64.wrap (s + o) = s + o by rw [uwrap];omega)
        have HV:=Aside0.mk (show s + o < 18446744073709551616 by omega)
        clear hov
        go_wp2_with fail
        refine (HO.out).mono ?_
        rintro e w1 ⟨rfl,rfl⟩
        go_wp2_with fail
        go_roundg k
        case measure => omega
        case rel => exact ⟨j + 1,_,rfl,by go_num,⟨by have:=HD.out;omega⟩,by omega,⟨by rw [sum_step (by rw [HN.out];exact hlt),← HS.out,HE.out];rw [HW.out];unfold capV;rw [if_pos HV.out]⟩,HG⟩
end Go.Proofs.YtgjjfnjnjnbfgaaDoor.L
