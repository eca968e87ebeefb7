/- The texts of this claim, put together by program, what it does not name left out: part 6. Conditions: each theorem's own. -/
import Derived.Test.YtbhijfbjdbjpbaaDoorZ5
namespace Go.Proofs.YtbhijfbjdbjpbaaDoor.GSH
open Go.RowKit Go.Proofs.YtbhijfbjdbjpbaaDoorW.PrintWords Go.Proofs.YtbhijfbjdbjpbaaDoorW.PrintLast Go.Proofs.YtbhijfbjdbjpbaaDoorW.PrintMore
attribute [local go_sem] max2_int min2_int max_two min_two max_three min_three max_four min_four   -- for this text's walks alone
set_option linter.unusedVariables false
set_option linter.unusedSimpArgs false
def backfillref11_Check.f (k : Nat) (a0_0 : Int) (a0_1 : Int) (a0_2 : Int) (a0_3 : Int) (a0_4 : Int) (a0_5 : Int) (a0_6 : Int) (a0_7 : Int) : Option (Int):=(backfillref11_ranges.f k a0_0 a0_1 a0_2 a0_3 a0_4 a0_5 a0_6 a0_7).bind fun t331 => (if t331 = true then ((backfillref11_M.f a0_0 a0_1 a0_2 a0_3 a0_4 a0_5 a0_6 a0_7).bind fun t332 => (if t332 > 2147483648 then (some 111) else (if (wrap64 ((wrap64 ((wrap64 (a0_3 * 1099511627776)) + a0_4)) + (wrap64 (a0_5 * a0_0)))) ≥ 4611686018427387904 then (some 112) else ((backfillref11_off.f a0_0 a0_1 a0_2 a0_3 a0_4 a0_5 a0_6 a0_7).bind fun bt333 => ((backfillref01_Times.f bt333.1 bt333.2.1 1000).bind fun bt339 => ((backfillref11_bound.f a0_0 a0_1 a0_2 a0_3 a0_4 a0_5 a0_6 a0_7).bind fun t343 => ((backfillref01_Times.f bt333.2.2.1 bt333.2.2.2 (IntKind.u64.wrap (wrap64 ((wrap64 ((wrap64 (a0_3 * t343)) + a0_4)) + (wrap64 (a0_5 * a0_0)))))).bind fun bt344 => ((backfillref01_Cmp.f k bt339.1 bt339.2.1 bt344.1 bt344.2.1).bind fun t348 => (if t348 > 0 then (some 113) else (some 0)))))))))) else (some 110))
theorem backfillref11_Check.mono : ∀ a0 a1 a2 a3 a4 a5 a6 a7 k,LeO (backfillref11_Check.f k a0 a1 a2 a3 a4 a5 a6 a7) (backfillref11_Check.f (k + 1) a0 a1 a2 a3 a4 a5 a6 a7):=by
 intro a0 a1 a2 a3 a4 a5 a6 a7 k
 unfold backfillref11_Check.f
 repeat' first
   | (with_reducible exact backfillref01_Cmp.mono _ _ _ _ _)
   | (with_reducible exact backfillref11_ranges.mono _ _ _ _ _ _ _ _ _)
   | (with_reducible exact LeO.refl _)
   | (with_reducible exact LeO.none _)
   | (with_reducible refine LeO.ite ?_ ?_)
   | (with_reducible refine LeO.bind ?_ (fun _ => ?_))
   | exact backfillref01_Cmp.mono _ _ _ _ _
   | exact backfillref11_ranges.mono _ _ _ _ _ _ _ _ _
   | exact LeO.none _
   | refine LeO.ite ?_ ?_
   | refine LeO.bind ?_ (fun _ => ?_)
def backfillref11_Check.T9 : Bool × List (List Nat × List Nat):=(true,[([],[]),([],[]),([1],[1]),([],[]),([3],[3]),([2,4],[2,4]),([],[]),([6],[6]),([5,7],[5,7]),([],[]),([9],[9]),([],[]),([11],[11]),([10,12],[10,12]),([8,13],[8,13]),([14],[14]),([0,15,4],[0,15]),([16],[16]),([17],[17]),([17],[17]),([],[]),([20,18,16,0,1,2,3,4,5,6,7,8,9,10,11,12,13,14,15,16,17,18,20],[18,20]),([19,21,0,1,2,3,4,5,6,7,8,9,10,11,12,13,14,15,16,17,18,19,20,21],[19])])
def backfillref11_Check.B9 : List Nat:=[0,0,2,0,8,30,0,64,254,0,512,0,2048,7680,16382,32766,65535,131071,262143,262143,0,1572863,4194303]
theorem backfillref11_Check.tab9 : rtab .any (opsOf Tryd.f10 9) = backfillref11_Check.T9:=by kernel_rfl
theorem backfillref11_Check.bits9 : waitsOk backfillref11_Check.T9.2 backfillref11_Check.B9 = true:=by kernel_rfl
set_option maxHeartbeats 8000000 in
set_option maxRecDepth 100000 in
theorem backfillref11_Check.calls (k : Nat) (a0_0 : Int) (a0_1 : Int) (a0_2 : Int) (a0_3 : Int) (a0_4 : Int) (a0_5 : Int) (a0_6 : Int) (a0_7 : Int) (r : Int) (w : World) (h : backfillref11_Check.f k a0_0 a0_1 a0_2 a0_3 a0_4 a0_5 a0_6 a0_7 = some r) :
  Calls Tryd.prog 10 #[.agg #[.int .i64 a0_0,.int .i64 a0_1,.int .i64 a0_2,.int .i64 a0_3,.int .i64 a0_4,.int .i64 a0_5,.int .i64 a0_6,.int .i64 a0_7]] w fun e w' => e = .returned (.int .i64 r) ∧ Below w.heap.size w w':=by
 have hu23:=Tryd.underlying23
 have hu40:=Tryd.underlying40
 have HB:=Am (Below.refl w.heap.size w)
 have H : ((backfillref11_ranges.f k a0_0 a0_1 a0_2 a0_3 a0_4 a0_5 a0_6 a0_7).bind fun t331 => (if t331 = true then ((backfillref11_M.f a0_0 a0_1 a0_2 a0_3 a0_4 a0_5 a0_6 a0_7).bind fun t332 => (if t332 > 2147483648 then (some 111) else (if (wrap64 ((wrap64 ((wrap64 (a0_3 * 1099511627776)) + a0_4)) + (wrap64 (a0_5 * a0_0)))) ≥ 4611686018427387904 then (some 112) else ((backfillref11_off.f a0_0 a0_1 a0_2 a0_3 a0_4 a0_5 a0_6 a0_7).bind fun bt333 => ((backfillref01_Times.f bt333.1 bt333.2.1 1000).bind fun bt339 => ((backfillref11_bound.f a0_0 a0_1 a0_2 a0_3 a0_4 a0_5 a0_6 a0_7).bind fun t343 => ((backfillref01_Times.f bt333.2.2.1 bt333.2.2.2 (IntKind.u64.wrap (wrap64 ((wrap64 ((wrap64 (a0_3 * t343)) + a0_4)) + (wrap64 (a0_5 * a0_0)))))).bind fun bt344 => ((backfillref01_Cmp.f k bt339.1 bt339.2.1 bt344.1 bt344.2.1).bind fun t348 => (if t348 > 0 then (some 113) else (some 0)))))))))) else (some 110))) = some r:=h
 clear h;replace H:=Option.bind_eq_some_iff.mp H;obtain ⟨t331,A20,H⟩:=H;replace H : (if t331 = true then ((backfillref11_M.f a0_0 a0_1 a0_2 a0_3 a0_4 a0_5 a0_6 a0_7).bind fun t332 => (if t332 > 2147483648 then (some 111) else (if (wrap64 ((wrap64 ((wrap64 (a0_3 * 1099511627776)) + a0_4)) + (wrap64 (a0_5 * a0_0)))) ≥ 4611686018427387904 then (some 112) else ((backfillref11_off.f a0_0 a0_1 a0_2 a0_3 a0_4 a0_5 a0_6 a0_7).bind fun bt333 => ((backfillref01_Times.f bt333.1 bt333.2.1 1000).bind fun bt339 => ((backfillref11_bound.f a0_0 a0_1 a0_2 a0_3 a0_4 a0_5 a0_6 a0_7).bind fun t343 => ((backfillref01_Times.f bt333.2.2.1 bt333.2.2.2 (IntKind.u64.wrap (wrap64 ((wrap64 ((wrap64 (a0_3 * t343)) + a0_4)) + (wrap64 (a0_5 * a0_0)))))).bind fun bt344 => ((backfillref01_Cmp.f k bt339.1 bt339.2.1 bt344.1 bt344.2.1).bind fun t348 => (if t348 > 0 then (some 113) else (some 0)))))))))) else (some 110)) = some r:=H;have A2:=Aside0.mk A20;clear A20
 by_cases c3 : t331 = true
 ·subst c3
  have H1 : ((backfillref11_M.f a0_0 a0_1 a0_2 a0_3 a0_4 a0_5 a0_6 a0_7).bind fun t332 => (if t332 > 2147483648 then (some 111) else (if (wrap64 ((wrap64 ((wrap64 (a0_3 * 1099511627776)) + a0_4)) + (wrap64 (a0_5 * a0_0)))) ≥ 4611686018427387904 then (some 112) else ((backfillref11_off.f a0_0 a0_1 a0_2 a0_3 a0_4 a0_5 a0_6 a0_7).bind fun bt333 => ((backfillref01_Times.f bt333.1 bt333.2.1 1000).bind fun bt339 => ((backfillref11_bound.f a0_0 a0_1 a0_2 a0_3 a0_4 a0_5 a0_6 a0_7).bind fun t343 => ((backfillref01_Times.f bt333.2.2.1 bt333.2.2.2 (IntKind.u64.wrap (wrap64 ((wrap64 ((wrap64 (a0_3 * t343)) + a0_4)) + (wrap64 (a0_5 * a0_0)))))).bind fun bt344 => ((backfillref01_Cmp.f k bt339.1 bt339.2.1 bt344.1 bt344.2.1).bind fun t348 => (if t348 > 0 then (some 113) else (some 0)))))))))) = some r:=by rw [if_pos rfl] at H;exact H
  clear H
  have H:=H1
  clear H1;replace H:=Option.bind_eq_some_iff.mp H;obtain ⟨t332,A40,H⟩:=H;replace H : (if t332 > 2147483648 then (some 111) else (if (wrap64 ((wrap64 ((wrap64 (a0_3 * 1099511627776)) + a0_4)) + (wrap64 (a0_5 * a0_0)))) ≥ 4611686018427387904 then (some 112) else ((backfillref11_off.f a0_0 a0_1 a0_2 a0_3 a0_4 a0_5 a0_6 a0_7).bind fun bt333 => ((backfillref01_Times.f bt333.1 bt333.2.1 1000).bind fun bt339 => ((backfillref11_bound.f a0_0 a0_1 a0_2 a0_3 a0_4 a0_5 a0_6 a0_7).bind fun t343 => ((backfillref01_Times.f bt333.2.2.1 bt333.2.2.2 (IntKind.u64.wrap (wrap64 ((wrap64 ((wrap64 (a0_3 * t343)) + a0_4)) + (wrap64 (a0_5 * a0_0)))))).bind fun bt344 => ((backfillref01_Cmp.f k bt339.1 bt339.2.1 bt344.1 bt344.2.1).bind fun t348 => (if t348 > 0 then (some 113) else (some 0))))))))) = some r:=H;have A4:=Aside0.mk A40;clear A40
  by_cases c5 : t332 > 2147483648
  ·rw [if_pos c5] at H
   have c5b0 : decide (2147483648 < t332) = true:=decide_eq_true c5
   clear c5
   obtain rfl:=Option.some.inj H
   go_enter Tryd.func10,Tryd.ntmps10
   go_wp2_with (first | ((with_reducible refine gate_dst (N:=1) rfl ?_);refine bxA 1 #[.int .i64 a0_0,.int .i64 a0_1,.int .i64 a0_2,.int .i64 a0_3,.int .i64 a0_4,.int .i64 a0_5,.int .i64 a0_6,.int .i64 a0_7] 23 ?_;intro gb330 hg w6 hbox hb;have n0_:=Am (below_step bA hb);have n1_:=Am (hbox);have n2_:=Am (gwA hg bA);have n3_:=Am (gwA hg bA);clear HB;have HB:=n0_;have BK330:=n1_;have GW330:=n2_;have GE330:=n3_;clear n0_ n1_ n2_ n3_ hb hbox hg;have hcz7_0 : w6.cell? ⟨gb330,0,none⟩ = some (.int .i64 a0_0):=(blk_cell BK330.out 0).trans rfl;have hcz7_1 : w6.cell? ⟨gb330,1,none⟩ = some (.int .i64 a0_1):=(blk_cell BK330.out 1).trans rfl;have hcz7_2 : w6.cell? ⟨gb330,2,none⟩ = some (.int .i64 a0_2):=(blk_cell BK330.out 2).trans rfl;have hcz7_3 : w6.cell? ⟨gb330,3,none⟩ = some (.int .i64 a0_3):=(blk_cell BK330.out 3).trans rfl;have hcz7_4 : w6.cell? ⟨gb330,4,none⟩ = some (.int .i64 a0_4):=(blk_cell BK330.out 4).trans rfl;have hcz7_5 : w6.cell? ⟨gb330,5,none⟩ = some (.int .i64 a0_5):=(blk_cell BK330.out 5).trans rfl;have hcz7_6 : w6.cell? ⟨gb330,6,none⟩ = some (.int .i64 a0_6):=(blk_cell BK330.out 6).trans rfl;have hcz7_7 : w6.cell? ⟨gb330,7,none⟩ = some (.int .i64 a0_7):=(blk_cell BK330.out 7).trans rfl;have hfz7_0:=blk_frozen BK330.out 0;have hfz7_1:=blk_frozen BK330.out 1;have hfz7_2:=blk_frozen BK330.out 2;have hfz7_3:=blk_frozen BK330.out 3;have hfz7_4:=blk_frozen BK330.out 4;have hfz7_5:=blk_frozen BK330.out 5;have hfz7_6:=blk_frozen BK330.out 6;have hfz7_7:=blk_frozen BK330.out 7) | ((with_reducible refine gate_callee (f:=27) rfl ?_);refine goesL_ (some 10) rfl rfl Tryd.func27 (by kernel_rfl) rfl #[.agg #[.int .i64 a0_0,.int .i64 a0_1,.int .i64 a0_2,.int .i64 a0_3,.int .i64 a0_4,.int .i64 a0_5,.int .i64 a0_6,.int .i64 a0_7]] rfl aA ?_;(with_reducible refine (backfillref11_ranges.calls k a0_0 a0_1 a0_2 a0_3 a0_4 a0_5 a0_6 a0_7 true _ A2.out).mono ?_);rintro e w8 ⟨rfl,hb⟩;refine ⟨_,rfl,?_⟩;have n0_:=Am (blk_below (g:=gb330) kA hb);have n1_:=Am (below_step bA hb);clear BK330 HB;have BK330:=n0_;have HB:=n1_;clear n0_ n1_;(try clear hb);have hcz9_0 : w8.cell? ⟨gb330,0,none⟩ = some (.int .i64 a0_0):=(blk_cell BK330.out 0).trans rfl;have hcz9_1 : w8.cell? ⟨gb330,1,none⟩ = some (.int .i64 a0_1):=(blk_cell BK330.out 1).trans rfl;have hcz9_2 : w8.cell? ⟨gb330,2,none⟩ = some (.int .i64 a0_2):=(blk_cell BK330.out 2).trans rfl;have hcz9_3 : w8.cell? ⟨gb330,3,none⟩ = some (.int .i64 a0_3):=(blk_cell BK330.out 3).trans rfl;have hcz9_4 : w8.cell? ⟨gb330,4,none⟩ = some (.int .i64 a0_4):=(blk_cell BK330.out 4).trans rfl;have hcz9_5 : w8.cell? ⟨gb330,5,none⟩ = some (.int .i64 a0_5):=(blk_cell BK330.out 5).trans rfl;have hcz9_6 : w8.cell? ⟨gb330,6,none⟩ = some (.int .i64 a0_6):=(blk_cell BK330.out 6).trans rfl;have hcz9_7 : w8.cell? ⟨gb330,7,none⟩ = some (.int .i64 a0_7):=(blk_cell BK330.out 7).trans rfl;have hfz9_0:=blk_frozen BK330.out 0;have hfz9_1:=blk_frozen BK330.out 1;have hfz9_2:=blk_frozen BK330.out 2;have hfz9_3:=blk_frozen BK330.out 3;have hfz9_4:=blk_frozen BK330.out 4;have hfz9_5:=blk_frozen BK330.out 5;have hfz9_6:=blk_frozen BK330.out 6;have hfz9_7:=blk_frozen BK330.out 7) | ((with_reducible refine gate_callee (f:=28) rfl ?_);refine goesL_ (some 13) rfl rfl Tryd.func28 (by kernel_rfl) rfl #[.agg #[.int .i64 a0_0,.int .i64 a0_1,.int .i64 a0_2,.int .i64 a0_3,.int .i64 a0_4,.int .i64 a0_5,.int .i64 a0_6,.int .i64 a0_7]] rfl aA ?_;(with_reducible refine (backfillref11_M.calls a0_0 a0_1 a0_2 a0_3 a0_4 a0_5 a0_6 a0_7 t332 _ A4.out).mono ?_);rintro e w10 ⟨rfl,hb⟩;refine ⟨_,rfl,?_⟩;have n0_:=Am (blk_below (g:=gb330) kA hb);have n1_:=Am (below_step bA hb);clear BK330 HB;have BK330:=n0_;have HB:=n1_;clear n0_ n1_;(try clear hb)))
   go_ret
   exact ⟨by first | rfl | (simp [errW_none,errW_some] <;> rfl) | (simp [*,errW_none,errW_some] <;> rfl),bA⟩
  ·rw [if_neg c5] at H
   have c5b0 : decide (2147483648 < t332) = false:=decide_eq_false c5
   clear c5
   by_cases c11 : (wrap64 ((wrap64 ((wrap64 (a0_3 * 1099511627776)) + a0_4)) + (wrap64 (a0_5 * a0_0)))) ≥ 4611686018427387904
   ·rw [if_pos c11] at H
    have c11b0 : decide (4611686018427387904 ≤ (wrap64 ((wrap64 ((wrap64 (a0_3 * 1099511627776)) + a0_4)) + (wrap64 (a0_5 * a0_0))))) = true:=decide_eq_true c11
    clear c11
    obtain rfl:=Option.some.inj H
    go_enter Tryd.func10,Tryd.ntmps10
    go_wp2_with (first | ((with_reducible refine gate_dst (N:=1) rfl ?_);refine bxA 1 #[.int .i64 a0_0,.int .i64 a0_1,.int .i64 a0_2,.int .i64 a0_3,.int .i64 a0_4,.int .i64 a0_5,.int .i64 a0_6,.int .i64 a0_7] 23 ?_;intro gb330 hg w12 hbox hb;have n0_:=Am (below_step bA hb);have n1_:=Am (hbox);have n2_:=Am (gwA hg bA);have n3_:=Am (gwA hg bA);clear HB;have HB:=n0_;have BK330:=n1_;have GW330:=n2_;have GE330:=n3_;clear n0_ n1_ n2_ n3_ hb hbox hg;have hcz13_0 : w12.cell? ⟨gb330,0,none⟩ = some (.int .i64 a0_0):=(blk_cell BK330.out 0).trans rfl;have hcz13_1 : w12.cell? ⟨gb330,1,none⟩ = some (.int .i64 a0_1):=(blk_cell BK330.out 1).trans rfl;have hcz13_2 : w12.cell? ⟨gb330,2,none⟩ = some (.int .i64 a0_2):=(blk_cell BK330.out 2).trans rfl;have hcz13_3 : w12.cell? ⟨gb330,3,none⟩ = some (.int .i64 a0_3):=(blk_cell BK330.out 3).trans rfl;have hcz13_4 : w12.cell? ⟨gb330,4,none⟩ = some (.int .i64 a0_4):=(blk_cell BK330.out 4).trans rfl;have hcz13_5 : w12.cell? ⟨gb330,5,none⟩ = some (.int .i64 a0_5):=(blk_cell BK330.out 5).trans rfl;have hcz13_6 : w12.cell? ⟨gb330,6,none⟩ = some (.int .i64 a0_6):=(blk_cell BK330.out 6).trans rfl;have hcz13_7 : w12.cell? ⟨gb330,7,none⟩ = some (.int .i64 a0_7):=(blk_cell BK330.out 7).trans rfl;have hfz13_0:=blk_frozen BK330.out 0;have hfz13_1:=blk_frozen BK330.out 1;have hfz13_2:=blk_frozen BK330.out 2;have hfz13_3:=blk_frozen BK330.out 3;have hfz13_4:=blk_frozen BK330.out 4;have hfz13_5:=blk_frozen BK330.out 5;have hfz13_6:=blk_frozen BK330.out 6;have hfz13_7:=blk_frozen BK330.out 7) | ((with_reducible refine gate_callee (f:=27) rfl ?_);refine goesL_ (some 10) rfl rfl Tryd.func27 (by kernel_rfl) rfl #[.agg #[.int .i64 a0_0,.int .i64 a0_1,.int .i64 a0_2,.int .i64 a0_3,.int .i64 a0_4,.int .i64 a0_5,.int .i64 a0_6,.int .i64 a0_7]] rfl aA ?_;(with_reducible refine (backfillref11_ranges.calls k a0_0 a0_1 a0_2 a0_3 a0_4 a0_5 a0_6 a0_7 true _ A2.out).mono ?_);rintro e w14 ⟨rfl,hb⟩;refine ⟨_,rfl,?_⟩;have n0_:=Am (blk_below (g:=gb330) kA hb);have n1_:=Am (below_step bA hb);clear BK330 HB;have BK330:=n0_;have HB:=n1_;clear n0_ n1_;(try clear hb);have hcz15_0 : w14.cell? ⟨gb330,0,none⟩ = some (.int .i64 a0_0):=(blk_cell BK330.out 0).trans rfl;have hcz15_1 : w14.cell? ⟨gb330,1,none⟩ = some (.int .i64 a0_1):=(blk_cell BK330.out 1).trans rfl;have hcz15_2 : w14.cell? ⟨gb330,2,none⟩ = some (.int .i64 a0_2):=(blk_cell BK330.out 2).trans rfl;have hcz15_3 : w14.cell? ⟨gb330,3,none⟩ = some (.int .i64 a0_3):=(blk_cell BK330.out 3).trans rfl;have hcz15_4 : w14.cell? ⟨gb330,4,none⟩ = some (.int .i64 a0_4):=(blk_cell BK330.out 4).trans rfl;have hcz15_5 : w14.cell? ⟨gb330,5,none⟩ = some (.int .i64 a0_5):=(blk_cell BK330.out 5).trans rfl;have hcz15_6 : w14.cell? ⟨gb330,6,none⟩ = some (.int .i64 a0_6):=(blk_cell BK330.out 6).trans rfl;have hcz15_7 : w14.cell? ⟨gb330,7,none⟩ = some (.int .i64 a0_7):=(blk_cell BK330.out 7).trans rfl;have hfz15_0:=blk_frozen BK330.out 0;have hfz15_1:=blk_frozen BK330.out 1;have hfz15_2:=blk_frozen BK330.out 2;have hfz15_3:=blk_frozen BK330.out 3;have hfz15_4:=blk_frozen BK330.out 4;have hfz15_5:=blk_frozen BK330.out 5;have hfz15_6:=blk_frozen BK330.out 6;have hfz15_7:=blk_frozen BK330.out 7) | ((with_reducible refine gate_callee (f:=28) rfl ?_);refine goesL_ (some 13) rfl rfl Tryd.func28 (by kernel_rfl) rfl #[.agg #[.int .i64 a0_0,.int .i64 a0_1,.int .i64 a0_2,.int .i64 a0_3,.int .i64 a0_4,.int .i64 a0_5,.int .i64 a0_6,.int .i64 a0_7]] rfl aA ?_;(with_reducible refine (backfillref11_M.calls a0_0 a0_1 a0_2 a0_3 a0_4 a0_5 a0_6 a0_7 t332 _ A4.out).mono ?_);rintro e w16 ⟨rfl,hb⟩;refine ⟨_,rfl,?_⟩;have n0_:=Am (blk_below (g:=gb330) kA hb);have n1_:=Am (below_step bA hb);clear BK330 HB;have BK330:=n0_;have HB:=n1_;clear n0_ n1_;(try clear hb);have hcz17_0 : w16.cell? ⟨gb330,0,none⟩ = some (.int .i64 a0_0):=(blk_cell BK330.out 0).trans rfl;have hcz17_1 : w16.cell? ⟨gb330,1,none⟩ = some (.int .i64 a0_1):=(blk_cell BK330.out 1).trans rfl;have hcz17_2 : w16.cell? ⟨gb330,2,none⟩ = some (.int .i64 a0_2):=(blk_cell BK330.out 2).trans rfl;have hcz17_3 : w16.cell? ⟨gb330,3,none⟩ = some (.int .i64 a0_3):=(blk_cell BK330.out 3).trans rfl;have hcz17_4 : w16.cell? ⟨gb330,4,none⟩ = some (.int .i64 a0_4):=(blk_cell BK330.out 4).trans rfl;have hcz17_5 : w16.cell? ⟨gb330,5,none⟩ = some (.int .i64 a0_5):=(blk_cell BK330.out 5).trans rfl;have hcz17_6 : w16.cell? ⟨gb330,6,none⟩ = some (.int .i64 a0_6):=(blk_cell BK330.out 6).trans rfl;have hcz17_7 : w16.cell? ⟨gb330,7,none⟩ = some (.int .i64 a0_7):=(blk_cell BK330.out 7).trans rfl;have hfz17_0:=blk_frozen BK330.out 0;have hfz17_1:=blk_frozen BK330.out 1;have hfz17_2:=blk_frozen BK330.out 2;have hfz17_3:=blk_frozen BK330.out 3;have hfz17_4:=blk_frozen BK330.out 4;have hfz17_5:=blk_frozen BK330.out 5;have hfz17_6:=blk_frozen BK330.out 6;have hfz17_7:=blk_frozen BK330.out 7))
    go_ret
    exact ⟨by first | rfl | (simp [errW_none,errW_some] <;> rfl) | (simp [*,errW_none,errW_some] <;> rfl),bA⟩
   ·rw [if_neg c11] at H
    have c11b0 : decide (4611686018427387904 ≤ (wrap64 ((wrap64 ((wrap64 (a0_3 * 1099511627776)) + a0_4)) + (wrap64 (a0_5 * a0_0))))) = false:=decide_eq_false c11
    clear c11;replace H:=Option.bind_eq_some_iff.mp H;obtain ⟨⟨t333,t334,t335,t336⟩,A180,H⟩:=H;replace H : ((backfillref01_Times.f t333 t334 1000).bind fun bt339 => ((backfillref11_bound.f a0_0 a0_1 a0_2 a0_3 a0_4 a0_5 a0_6 a0_7).bind fun t343 => ((backfillref01_Times.f t335 t336 (IntKind.u64.wrap (wrap64 ((wrap64 ((wrap64 (a0_3 * t343)) + a0_4)) + (wrap64 (a0_5 * a0_0)))))).bind fun bt344 => ((backfillref01_Cmp.f k bt339.1 bt339.2.1 bt344.1 bt344.2.1).bind fun t348 => (if t348 > 0 then (some 113) else (some 0)))))) = some r:=H;have A18:=Aside0.mk A180;clear A180;replace H:=Option.bind_eq_some_iff.mp H;obtain ⟨⟨t339,t340,t341⟩,A190,H⟩:=H;replace H : ((backfillref11_bound.f a0_0 a0_1 a0_2 a0_3 a0_4 a0_5 a0_6 a0_7).bind fun t343 => ((backfillref01_Times.f t335 t336 (IntKind.u64.wrap (wrap64 ((wrap64 ((wrap64 (a0_3 * t343)) + a0_4)) + (wrap64 (a0_5 * a0_0)))))).bind fun bt344 => ((backfillref01_Cmp.f k t339 t340 bt344.1 bt344.2.1).bind fun t348 => (if t348 > 0 then (some 113) else (some 0))))) = some r:=H;have A19:=Aside0.mk A190;clear A190;replace H:=Option.bind_eq_some_iff.mp H;obtain ⟨t343,A200,H⟩:=H;replace H : ((backfillref01_Times.f t335 t336 (IntKind.u64.wrap (wrap64 ((wrap64 ((wrap64 (a0_3 * t343)) + a0_4)) + (wrap64 (a0_5 * a0_0)))))).bind fun bt344 => ((backfillref01_Cmp.f k t339 t340 bt344.1 bt344.2.1).bind fun t348 => (if t348 > 0 then (some 113) else (some 0)))) = some r:=H;have A20:=Aside0.mk A200;clear A200;replace H:=Option.bind_eq_some_iff.mp H;obtain ⟨⟨t344,t345,t346⟩,A210,H⟩:=H;replace H : ((backfillref01_Cmp.f k t339 t340 t344 t345).bind fun t348 => (if t348 > 0 then (some 113) else (some 0))) = some r:=H;have A21:=Aside0.mk A210;clear A210;replace H:=Option.bind_eq_some_iff.mp H;obtain ⟨t348,A220,H⟩:=H;replace H : (if t348 > 0 then (some 113) else (some 0)) = some r:=H;have A22:=Aside0.mk A220;clear A220
    go_enter Tryd.func10,Tryd.ntmps10
    try go_wp2_with (first | ((with_reducible refine gate_dst (N:=1) rfl ?_);refine bxA 1 #[.int .i64 a0_0,.int .i64 a0_1,.int .i64 a0_2,.int .i64 a0_3,.int .i64 a0_4,.int .i64 a0_5,.int .i64 a0_6,.int .i64 a0_7] 23 ?_;intro gb330 hg w24 hbox hb;have n0_:=Am (below_step bA hb);have n1_:=Am (hbox);have n2_:=Am (gwA hg bA);have n3_:=Am (gwA hg bA);clear HB;have HB:=n0_;have BK330:=n1_;have GW330:=n2_;have GE330:=n3_;clear n0_ n1_ n2_ n3_ hb hbox hg;have hcz25_0 : w24.cell? ⟨gb330,0,none⟩ = some (.int .i64 a0_0):=(blk_cell BK330.out 0).trans rfl;have hcz25_1 : w24.cell? ⟨gb330,1,none⟩ = some (.int .i64 a0_1):=(blk_cell BK330.out 1).trans rfl;have hcz25_2 : w24.cell? ⟨gb330,2,none⟩ = some (.int .i64 a0_2):=(blk_cell BK330.out 2).trans rfl;have hcz25_3 : w24.cell? ⟨gb330,3,none⟩ = some (.int .i64 a0_3):=(blk_cell BK330.out 3).trans rfl;have hcz25_4 : w24.cell? ⟨gb330,4,none⟩ = some (.int .i64 a0_4):=(blk_cell BK330.out 4).trans rfl;have hcz25_5 : w24.cell? ⟨gb330,5,none⟩ = some (.int .i64 a0_5):=(blk_cell BK330.out 5).trans rfl;have hcz25_6 : w24.cell? ⟨gb330,6,none⟩ = some (.int .i64 a0_6):=(blk_cell BK330.out 6).trans rfl;have hcz25_7 : w24.cell? ⟨gb330,7,none⟩ = some (.int .i64 a0_7):=(blk_cell BK330.out 7).trans rfl;have hfz25_0:=blk_frozen BK330.out 0;have hfz25_1:=blk_frozen BK330.out 1;have hfz25_2:=blk_frozen BK330.out 2;have hfz25_3:=blk_frozen BK330.out 3;have hfz25_4:=blk_frozen BK330.out 4;have hfz25_5:=blk_frozen BK330.out 5;have hfz25_6:=blk_frozen BK330.out 6;have hfz25_7:=blk_frozen BK330.out 7) | ((with_reducible refine gate_callee (f:=27) rfl ?_);refine goesL_ (some 10) rfl rfl Tryd.func27 (by kernel_rfl) rfl #[.agg #[.int .i64 a0_0,.int .i64 a0_1,.int .i64 a0_2,.int .i64 a0_3,.int .i64 a0_4,.int .i64 a0_5,.int .i64 a0_6,.int .i64 a0_7]] rfl aA ?_;(with_reducible refine (backfillref11_ranges.calls k a0_0 a0_1 a0_2 a0_3 a0_4 a0_5 a0_6 a0_7 true _ A2.out).mono ?_);rintro e w26 ⟨rfl,hb⟩;refine ⟨_,rfl,?_⟩;have n0_:=Am (blk_below (g:=gb330) kA hb);have n1_:=Am (below_step bA hb);clear BK330 HB;have BK330:=n0_;have HB:=n1_;clear n0_ n1_;(try clear hb);have hcz27_0 : w26.cell? ⟨gb330,0,none⟩ = some (.int .i64 a0_0):=(blk_cell BK330.out 0).trans rfl;have hcz27_1 : w26.cell? ⟨gb330,1,none⟩ = some (.int .i64 a0_1):=(blk_cell BK330.out 1).trans rfl;have hcz27_2 : w26.cell? ⟨gb330,2,none⟩ = some (.int .i64 a0_2):=(blk_cell BK330.out 2).trans rfl;have hcz27_3 : w26.cell? ⟨gb330,3,none⟩ = some (.int .i64 a0_3):=(blk_cell BK330.out 3).trans rfl;have hcz27_4 : w26.cell? ⟨gb330,4,none⟩ = some (.int .i64 a0_4):=(blk_cell BK330.out 4).trans rfl;have hcz27_5 : w26.cell? ⟨gb330,5,none⟩ = some (.int .i64 a0_5):=(blk_cell BK330.out 5).trans rfl;have hcz27_6 : w26.cell? ⟨gb330,6,none⟩ = some (.int .i64 a0_6):=(blk_cell BK330.out 6).trans rfl;have hcz27_7 : w26.cell? ⟨gb330,7,none⟩ = some (.int .i64 a0_7):=(blk_cell BK330.out 7).trans rfl;have hfz27_0:=blk_frozen BK330.out 0;have hfz27_1:=blk_frozen BK330.out 1;have hfz27_2:=blk_frozen BK330.out 2;have hfz27_3:=blk_frozen BK330.out 3;have hfz27_4:=blk_frozen BK330.out 4;have hfz27_5:=blk_frozen BK330.out 5;have hfz27_6:=blk_frozen BK330.out 6;have hfz27_7:=blk_frozen BK330.out 7) | ((with_reducible refine gate_callee (f:=28) rfl ?_);refine goesL_ (some 13) rfl rfl Tryd.func28 (by kernel_rfl) rfl #[.agg #[.int .i64 a0_0,.int .i64 a0_1,.int .i64 a0_2,.int .i64 a0_3,.int .i64 a0_4,.int .i64 a0_5,.int .i64 a0_6,.int .i64 a0_7]] rfl aA ?_;(with_reducible refine (backfillref11_M.calls a0_0 a0_1 a0_2 a0_3 a0_4 a0_5 a0_6 a0_7 t332 _ A4.out).mono ?_);rintro e w28 ⟨rfl,hb⟩;refine ⟨_,rfl,?_⟩;have n0_:=Am (blk_below (g:=gb330) kA hb);have n1_:=Am (below_step bA hb);clear BK330 HB;have BK330:=n0_;have HB:=n1_;clear n0_ n1_;(try clear hb);have hcz29_0 : w28.cell? ⟨gb330,0,none⟩ = some (.int .i64 a0_0):=(blk_cell BK330.out 0).trans rfl;have hcz29_1 : w28.cell? ⟨gb330,1,none⟩ = some (.int .i64 a0_1):=(blk_cell BK330.out 1).trans rfl;have hcz29_2 : w28.cell? ⟨gb330,2,none⟩ = some (.int .i64 a0_2):=(blk_cell BK330.out 2).trans rfl;have hcz29_3 : w28.cell? ⟨gb330,3,none⟩ = some (.int .i64 a0_3):=(blk_cell BK330.out 3).trans rfl;have hcz29_4 : w28.cell? ⟨gb330,4,none⟩ = some (.int .i64 a0_4):=(blk_cell BK330.out 4).trans rfl;have hcz29_5 : w28.cell? ⟨gb330,5,none⟩ = some (.int .i64 a0_5):=(blk_cell BK330.out 5).trans rfl;have hcz29_6 : w28.cell? ⟨gb330,6,none⟩ = some (.int .i64 a0_6):=(blk_cell BK330.out 6).trans rfl;have hcz29_7 : w28.cell? ⟨gb330,7,none⟩ = some (.int .i64 a0_7):=(blk_cell BK330.out 7).trans rfl;have hfz29_0:=blk_frozen BK330.out 0;have hfz29_1:=blk_frozen BK330.out 1;have hfz29_2:=blk_frozen BK330.out 2;have hfz29_3:=blk_frozen BK330.out 3;have hfz29_4:=blk_frozen BK330.out 4;have hfz29_5:=blk_frozen BK330.out 5;have hfz29_6:=blk_frozen BK330.out 6;have hfz29_7:=blk_frozen BK330.out 7) | ((with_reducible refine gate_callee (f:=29) rfl ?_);refine goesL_ (some 30) rfl rfl Tryd.func29 (by kernel_rfl) rfl #[.agg #[.int .i64 a0_0,.int .i64 a0_1,.int .i64 a0_2,.int .i64 a0_3,.int .i64 a0_4,.int .i64 a0_5,.int .i64 a0_6,.int .i64 a0_7]] rfl aA ?_;(with_reducible refine (backfillref11_off.calls a0_0 a0_1 a0_2 a0_3 a0_4 a0_5 a0_6 a0_7 t333 t334 t335 t336 _ A18.out).mono ?_);rintro e w30 ⟨rfl,hb⟩;refine ⟨_,rfl,?_⟩;have n0_:=Am (blk_below (g:=gb330) kA hb);have n1_:=Am (below_step bA hb);clear BK330 HB;have BK330:=n0_;have HB:=n1_;clear n0_ n1_;(try clear hb)) | ((with_reducible refine gate_dst (N:=3) rfl ?_);refine bxA 3 #[.int .u64 0,.int .u64 0] 40 ?_;intro gb337 hg w31 hbox hb;have n0_:=Am (blk_below (g:=gb330) kA hb);have n1_:=Am (below_step bA hb);have n2_:=Am (hbox);have n3_:=Am (gwA hg bA);have n4_:=Am (gwA hg bA);have n5_:=Am (neA (g:=gb330) hg kA);have n6_:=Am (neB (g:=gb330) hg kA);clear BK330 HB;have BK330:=n0_;have HB:=n1_;have BK337:=n2_;have GW337:=n3_;have GE337:=n4_;have NB330_337:=n5_;have NB337_330:=n6_;clear n0_ n1_ n2_ n3_ n4_ n5_ n6_ hb hbox hg) | ((with_reducible refine gate_dst (N:=4) rfl ?_);refine bxA 4 #[.int .u64 0,.int .u64 0] 40 ?_;intro gb338 hg w32 hbox hb;have n0_:=Am (blk_below (g:=gb330) kA hb);have n1_:=Am (blk_below (g:=gb337) kA hb);have n2_:=Am (below_step bA hb);have n3_:=Am (hbox);have n4_:=Am (gwA hg bA);have n5_:=Am (gwA hg bA);have n6_:=Am (neA (g:=gb330) hg kA);have n7_:=Am (neB (g:=gb330) hg kA);have n8_:=Am (neA (g:=gb337) hg kA);have n9_:=Am (neB (g:=gb337) hg kA);clear BK330 BK337 HB;have BK330:=n0_;have BK337:=n1_;have HB:=n2_;have BK338:=n3_;have GW338:=n4_;have GE338:=n5_;have NB330_338:=n6_;have NB338_330:=n7_;have NB337_338:=n8_;have NB338_337:=n9_;clear n0_ n1_ n2_ n3_ n4_ n5_ n6_ n7_ n8_ n9_ hb hbox hg;have hnb33:=NB337_330.out;have hnc33:=NB330_337.out;have hnb34:=NB337_338.out;have hnc34:=NB338_337.out;have hcz35_0 : w32.cell? ⟨gb337,0,none⟩ = some (.int .u64 0):=(blk_cell BK337.out 0).trans rfl;have hcz35_1 : w32.cell? ⟨gb337,1,none⟩ = some (.int .u64 0):=(blk_cell BK337.out 1).trans rfl;have hfz35_0:=blk_frozen BK337.out 0;have hfz35_1:=blk_frozen BK337.out 1;have hnb36:=NB338_330.out;have hnc36:=NB330_338.out;have hcz37_0 : w32.cell? ⟨gb338,0,none⟩ = some (.int .u64 0):=(blk_cell BK338.out 0).trans rfl;have hcz37_1 : w32.cell? ⟨gb338,1,none⟩ = some (.int .u64 0):=(blk_cell BK338.out 1).trans rfl;have hfz37_0:=blk_frozen BK338.out 0;have hfz37_1:=blk_frozen BK338.out 1) | ((with_reducible refine gate_callee (f:=30) rfl ?_);refine goesL_ (some 35) rfl rfl Tryd.func30 (by kernel_rfl) rfl #[.agg #[.int .u64 t333,.int .u64 t334],.int .u64 1000] rfl aA ?_;(with_reducible refine (backfillref01_Times.calls t333 t334 1000 t339 t340 t341 _ A19.out).mono ?_);rintro e w38 ⟨rfl,hb⟩;refine ⟨_,rfl,?_⟩;have n0_:=Am (blk_below (g:=gb330) (o:=.cells #[.int .i64 a0_0,.int .i64 a0_1,.int .i64 a0_2,.int .i64 a0_3,.int .i64 a0_4,.int .i64 a0_5,.int .i64 a0_6,.int .i64 a0_7] 23 (0,0)) (by (with_reducible repeat (first | refine b1 ?_ _ | refine b2 ?_ | refine b3 ?_ _));refine blk_far ?_ NB330_338.out _;(with_reducible repeat (first | refine b1 ?_ _ | refine b2 ?_ | refine b3 ?_ _));refine blk_far ?_ NB330_338.out _;(with_reducible repeat (first | refine b1 ?_ _ | refine b2 ?_ | refine b3 ?_ _));refine blk_far ?_ NB330_337.out _;(with_reducible repeat (first | refine b1 ?_ _ | refine b2 ?_ | refine b3 ?_ _));refine blk_far ?_ NB330_337.out _;exact kA) hb);have n1_:=Am (blk_below (g:=gb337) (o:=.cells #[.int .u64 t333,.int .u64 t334] 40 (0,0)) (by (with_reducible repeat (first | refine b1 ?_ _ | refine b2 ?_ | refine b3 ?_ _));refine blk_far ?_ NB337_338.out _;(with_reducible repeat (first | refine b1 ?_ _ | refine b2 ?_ | refine b3 ?_ _));refine blk_far ?_ NB337_338.out _;(with_reducible repeat (first | refine b1 ?_ _ | refine b2 ?_ | refine b3 ?_ _));refine blk_put (cs:=#[.int .u64 t333,.int .u64 0]) ?_ 1 _ rfl;(with_reducible repeat (first | refine b1 ?_ _ | refine b2 ?_ | refine b3 ?_ _));refine blk_put (cs:=#[.int .u64 0,.int .u64 0]) ?_ 0 _ rfl;exact kA) hb);have n2_:=Am (blk_below (g:=gb338) (o:=.cells #[.int .u64 t335,.int .u64 t336] 40 (0,0)) (by (with_reducible repeat (first | refine b1 ?_ _ | refine b2 ?_ | refine b3 ?_ _));refine blk_put (cs:=#[.int .u64 t335,.int .u64 0]) ?_ 1 _ rfl;(with_reducible repeat (first | refine b1 ?_ _ | refine b2 ?_ | refine b3 ?_ _));refine blk_put (cs:=#[.int .u64 0,.int .u64 0]) ?_ 0 _ rfl;(with_reducible repeat (first | refine b1 ?_ _ | refine b2 ?_ | refine b3 ?_ _));refine blk_far ?_ NB338_337.out _;(with_reducible repeat (first | refine b1 ?_ _ | refine b2 ?_ | refine b3 ?_ _));refine blk_far ?_ NB338_337.out _;exact kA) hb);have n3_:=Am (below_step bA hb);clear BK330 BK337 BK338 HB;have BK330:=n0_;have BK337:=n1_;have BK338:=n2_;have HB:=n3_;clear n0_ n1_ n2_ n3_;(try clear hb)) | ((with_reducible refine gate_dst (N:=5) rfl ?_);refine bxA 5 #[.int .u64 0,.int .u64 0] 40 ?_;intro gb342 hg w39 hbox hb;have n0_:=Am (blk_below (g:=gb330) kA hb);have n1_:=Am (blk_below (g:=gb337) kA hb);have n2_:=Am (blk_below (g:=gb338) kA hb);have n3_:=Am (below_step bA hb);have n4_:=Am (hbox);have n5_:=Am (gwA hg bA);have n6_:=Am (gwA hg bA);have n7_:=Am (neA (g:=gb330) hg kA);have n8_:=Am (neB (g:=gb330) hg kA);have n9_:=Am (neA (g:=gb337) hg kA);have n10_:=Am (neB (g:=gb337) hg kA);have n11_:=Am (neA (g:=gb338) hg kA);have n12_:=Am (neB (g:=gb338) hg kA);clear BK330 BK337 BK338 HB;have BK330:=n0_;have BK337:=n1_;have BK338:=n2_;have HB:=n3_;have BK342:=n4_;have GW342:=n5_;have GE342:=n6_;have NB330_342:=n7_;have NB342_330:=n8_;have NB337_342:=n9_;have NB342_337:=n10_;have NB338_342:=n11_;have NB342_338:=n12_;clear n0_ n1_ n2_ n3_ n4_ n5_ n6_ n7_ n8_ n9_ n10_ n11_ n12_ hb hbox hg;have hnb40:=NB342_330.out;have hnc40:=NB330_342.out;have hnb41:=NB342_337.out;have hnc41:=NB337_342.out;have hnb42:=NB342_338.out;have hnc42:=NB338_342.out;have hcz43_0 : w39.cell? ⟨gb342,0,none⟩ = some (.int .u64 0):=(blk_cell BK342.out 0).trans rfl;have hcz43_1 : w39.cell? ⟨gb342,1,none⟩ = some (.int .u64 0):=(blk_cell BK342.out 1).trans rfl;have hfz43_0:=blk_frozen BK342.out 0;have hfz43_1:=blk_frozen BK342.out 1))
    have n0_ : Aside0 (((w39.setCell ⟨gb342,0,none⟩ (.int .u64 t339)).setCell ⟨gb342,1,none⟩ (.int .u64 t340)).heap[gb330]? = some (.cells #[.int .i64 a0_0,.int .i64 a0_1,.int .i64 a0_2,.int .i64 a0_3,.int .i64 a0_4,.int .i64 a0_5,.int .i64 a0_6,.int .i64 a0_7] 23 (0,0))):=⟨by (with_reducible repeat (first | refine b1 ?_ _ | refine b2 ?_ | refine b3 ?_ _));refine blk_far ?_ NB330_342.out _;(with_reducible repeat (first | refine b1 ?_ _ | refine b2 ?_ | refine b3 ?_ _));refine blk_far ?_ NB330_342.out _;exact kA⟩
    have n1_ : Aside0 (((w39.setCell ⟨gb342,0,none⟩ (.int .u64 t339)).setCell ⟨gb342,1,none⟩ (.int .u64 t340)).heap[gb337]? = some (.cells #[.int .u64 t333,.int .u64 t334] 40 (0,0))):=⟨by (with_reducible repeat (first | refine b1 ?_ _ | refine b2 ?_ | refine b3 ?_ _));refine blk_far ?_ NB337_342.out _;(with_reducible repeat (first | refine b1 ?_ _ | refine b2 ?_ | refine b3 ?_ _));refine blk_far ?_ NB337_342.out _;exact kA⟩
    have n2_ : Aside0 (((w39.setCell ⟨gb342,0,none⟩ (.int .u64 t339)).setCell ⟨gb342,1,none⟩ (.int .u64 t340)).heap[gb338]? = some (.cells #[.int .u64 t335,.int .u64 t336] 40 (0,0))):=⟨by (with_reducible repeat (first | refine b1 ?_ _ | refine b2 ?_ | refine b3 ?_ _));refine blk_far ?_ NB338_342.out _;(with_reducible repeat (first | refine b1 ?_ _ | refine b2 ?_ | refine b3 ?_ _));refine blk_far ?_ NB338_342.out _;exact kA⟩
    have n3_ : Aside0 (((w39.setCell ⟨gb342,0,none⟩ (.int .u64 t339)).setCell ⟨gb342,1,none⟩ (.int .u64 t340)).heap[gb342]? = some (.cells #[.int .u64 t339,.int .u64 t340] 40 (0,0))):=⟨by (with_reducible repeat (first | refine b1 ?_ _ | refine b2 ?_ | refine b3 ?_ _));refine blk_put (cs:=#[.int .u64 t339,.int .u64 0]) ?_ 1 _ rfl;(with_reducible repeat (first | refine b1 ?_ _ | refine b2 ?_ | refine b3 ?_ _));refine blk_put (cs:=#[.int .u64 0,.int .u64 0]) ?_ 0 _ rfl;exact kA⟩
    have n4_ : Aside0 (Below w.heap.size w ((w39.setCell ⟨gb342,0,none⟩ (.int .u64 t339)).setCell ⟨gb342,1,none⟩ (.int .u64 t340))):=⟨bA⟩
    (try clear BK330);(try clear BK337);(try clear BK338);(try clear BK342);(try clear HB)
    generalize ((w39.setCell ⟨gb342,0,none⟩ (.int .u64 t339)).setCell ⟨gb342,1,none⟩ (.int .u64 t340)) = w44 at n0_ n1_ n2_ n3_ n4_ ⊢
    have BK330:=n0_;have BK337:=n1_;have BK338:=n2_;have BK342:=n3_;have HB:=n4_;clear n0_ n1_ n2_ n3_ n4_;have n0_:=Am (blk_drew BK330.out);have n1_:=Am (blk_drew BK337.out);have n2_:=Am (blk_drew BK338.out);have n3_:=Am (blk_drew BK342.out);have n4_:=Am (below_drew1 HB.out);clear BK330 BK337 BK338 BK342 HB;have BK330:=n0_;have BK337:=n1_;have BK338:=n2_;have BK342:=n3_;have HB:=n4_;clear n0_ n1_ n2_ n3_ n4_
    refine start_ (n:=23) (S:=fun w' => w'.cell? ⟨gb338,0,none⟩ = some (.int .u64 t335) ∧ w'.cell? ⟨gb338,1,none⟩ = some (.int .u64 t336) ∧ w'.cell? ⟨gb330,0,none⟩ = some (.int .i64 a0_0) ∧ w'.cell? ⟨gb330,1,none⟩ = some (.int .i64 a0_1) ∧ w'.cell? ⟨gb330,2,none⟩ = some (.int .i64 a0_2) ∧ w'.cell? ⟨gb330,3,none⟩ = some (.int .i64 a0_3) ∧ w'.cell? ⟨gb330,4,none⟩ = some (.int .i64 a0_4) ∧ w'.cell? ⟨gb330,5,none⟩ = some (.int .i64 a0_5) ∧ w'.cell? ⟨gb330,6,none⟩ = some (.int .i64 a0_6) ∧ w'.cell? ⟨gb330,7,none⟩ = some (.int .i64 a0_7)) (ds:=[]) #[nn,nn,nn,nn,nn,nn,nn,nn,nn,nn,nn,nn,nn,nn,nn,nn,nn,nn,nn,nn,nn,nn,nn] (by kernel_rfl) rfl rfl ⟨(blk_cell BK338.out 0).trans rfl,(blk_cell BK338.out 1).trans rfl,(blk_cell BK330.out 0).trans rfl,(blk_cell BK330.out 1).trans rfl,(blk_cell BK330.out 2).trans rfl,(blk_cell BK330.out 3).trans rfl,(blk_cell BK330.out 4).trans rfl,(blk_cell BK330.out 5).trans rfl,(blk_cell BK330.out 6).trans rfl,(blk_cell BK330.out 7).trans rfl⟩ (fun hHeld => ?_);refine with_tabW backfillref11_Check.tab9 backfillref11_Check.bits9 (fun HT_ HW_ => ?_)
    generalize w44.drew = w45 at BK330 BK337 BK338 BK342 HB hHeld ⊢
    refine pure_ (i:=1) (N:=some 40) (v:=?_) (a':=?_) #[nn,yy,nn,nn,nn,nn,nn,nn,nn,nn,nn,nn,nn,nn,nn,nn,nn,nn,nn,nn,nn,nn,nn] rfl rfl (any_of HT_.out (by kernel_rfl)) (fun _ _ _ h => h) (Or.inl ⟨by rfl,?_⟩) ?_ ?_
    rotate_left
    ·intro w'
     go_simp;with_reducible rfl
    rotate_left
    ·simp only [NR]
     rfl
    refine pure_ (i:=6) (N:=some 45) (v:=?_) (a':=?_) #[nn,yy,nn,nn,nn,nn,yy,nn,nn,nn,nn,nn,nn,nn,nn,nn,nn,nn,nn,nn,nn,nn,nn] rfl rfl (any_of HT_.out (by kernel_rfl)) (fun _ _ _ h => h) (Or.inl ⟨by rfl,?_⟩) ?_ ?_
    rotate_left
    ·intro w'
     go_simp;with_reducible rfl
    rotate_left
    ·simp only [NR]
     rfl
    refine pure_ (i:=9) (N:=some 48) (v:=?_) (a':=?_) #[nn,yy,nn,nn,nn,nn,yy,nn,nn,yy,nn,nn,nn,nn,nn,nn,nn,nn,nn,nn,nn,nn,nn] rfl rfl (any_of HT_.out (by kernel_rfl)) (fun _ _ _ h => h) (Or.inl ⟨by rfl,?_⟩) ?_ ?_
    rotate_left
    ·intro w'
     go_simp;with_reducible rfl
    rotate_left
    ·simp only [NR]
     rfl
    refine pure_ (i:=11) (N:=some 50) (v:=?_) (a':=?_) #[nn,yy,nn,nn,nn,nn,yy,nn,nn,yy,nn,yy,nn,nn,nn,nn,nn,nn,nn,nn,nn,nn,nn] rfl rfl (any_of HT_.out (by kernel_rfl)) (fun _ _ _ h => h) (Or.inl ⟨by rfl,?_⟩) ?_ ?_
    rotate_left
    ·intro w'
     go_simp;with_reducible rfl
    rotate_left
    ·simp only [NR]
     rfl
    refine take_ (i:=0) (N:=some 39) (v:=?_) (a':=?_) #[yy,yy,nn,nn,nn,nn,yy,nn,nn,yy,nn,yy,nn,nn,nn,nn,nn,nn,nn,nn,nn,nn,nn] rfl rfl (take_ofW HT_.out HW_.out (by kernel_rfl)) (fun _ _ _ h => h) (Or.inl ⟨by rfl,?_⟩) hHeld ?_ ?_
    rotate_left
    ·rintro w' ⟨s0,s1,s2,s3,s4,s5,s6,s7,s8,s9⟩
     go_simp;with_reducible rfl
    rotate_left
    ·simp only [NR]
     rfl
    refine take_ (i:=2) (N:=some 41) (v:=?_) (a':=?_) #[yy,yy,yy,nn,nn,nn,yy,nn,nn,yy,nn,yy,nn,nn,nn,nn,nn,nn,nn,nn,nn,nn,nn] rfl rfl (take_ofW HT_.out HW_.out (by kernel_rfl)) (fun _ _ _ h => h) (Or.inl ⟨by rfl,?_⟩) hHeld ?_ ?_
    rotate_left
    ·rintro w' ⟨s0,s1,s2,s3,s4,s5,s6,s7,s8,s9⟩
     go_simp;with_reducible rfl
    rotate_left
    ·simp only [NR]
     rfl
    refine take_ (i:=3) (N:=some 42) (v:=?_) (a':=?_) #[yy,yy,yy,yy,nn,nn,yy,nn,nn,yy,nn,yy,nn,nn,nn,nn,nn,nn,nn,nn,nn,nn,nn] rfl rfl (take_ofW HT_.out HW_.out (by kernel_rfl)) (fun _ _ _ h => h) (Or.inl ⟨by rfl,?_⟩) hHeld ?_ ?_
    rotate_left
    ·rintro w' ⟨s0,s1,s2,s3,s4,s5,s6,s7,s8,s9⟩
     go_simp;with_reducible rfl
    rotate_left
    ·simp only [NR]
     rfl
    refine take_ (i:=7) (N:=some 46) (v:=?_) (a':=?_) #[yy,yy,yy,yy,nn,nn,yy,yy,nn,yy,nn,yy,nn,nn,nn,nn,nn,nn,nn,nn,nn,nn,nn] rfl rfl (take_ofW HT_.out HW_.out (by kernel_rfl)) (fun _ _ _ h => h) (Or.inl ⟨by rfl,?_⟩) hHeld ?_ ?_
    rotate_left
    ·rintro w' ⟨s0,s1,s2,s3,s4,s5,s6,s7,s8,s9⟩
     go_simp;with_reducible rfl
    rotate_left
    ·simp only [NR]
     rfl
    refine take_ (i:=10) (N:=some 49) (v:=?_) (a':=?_) #[yy,yy,yy,yy,nn,nn,yy,yy,nn,yy,yy,yy,nn,nn,nn,nn,nn,nn,nn,nn,nn,nn,nn] rfl rfl (take_ofW HT_.out HW_.out (by kernel_rfl)) (fun _ _ _ h => h) (Or.inl ⟨by rfl,?_⟩) hHeld ?_ ?_
    rotate_left
    ·rintro w' ⟨s0,s1,s2,s3,s4,s5,s6,s7,s8,s9⟩
     go_simp;with_reducible rfl
    rotate_left
    ·simp only [NR]
     rfl
    refine take_ (i:=12) (N:=some 51) (v:=?_) (a':=?_) #[yy,yy,yy,yy,nn,nn,yy,yy,nn,yy,yy,yy,yy,nn,nn,nn,nn,nn,nn,nn,nn,nn,nn] rfl rfl (take_ofW HT_.out HW_.out (by kernel_rfl)) (fun _ _ _ h => h) (Or.inl ⟨by rfl,?_⟩) hHeld ?_ ?_
    rotate_left
    ·rintro w' ⟨s0,s1,s2,s3,s4,s5,s6,s7,s8,s9⟩
     go_simp;with_reducible rfl
    rotate_left
    ·simp only [NR]
     rfl
    refine pure_ (i:=13) (N:=some 52) (v:=?_) (a':=?_) #[yy,yy,yy,yy,nn,nn,yy,yy,nn,yy,yy,yy,yy,yy,nn,nn,nn,nn,nn,nn,nn,nn,nn] rfl rfl (any_of HT_.out (by kernel_rfl)) (fun _ _ _ h => h) (Or.inl ⟨by rfl,?_⟩) ?_ ?_
    rotate_left
    ·intro w'
     go_simp;with_reducible rfl
    rotate_left
    ·simp only [NR]
     rfl
    refine join_ (σ:=Nat) 2 #[yy,yy,yy,yy,yy,yy,yy,yy,yy,yy,yy,yy,yy,yy,yy,yy,yy,yy,yy,yy,yy,nn,nn] (fun s_ => [(43,.int .i64 t343),(55,.tuple #[.agg #[.int .u64 t344,.int .u64 t345],.bool t346]),(7,.pointer (some ⟨s_,0,none⟩)),(44,.int .i64 (wrap64 (a0_3 * t343))),(47,.int .i64 (wrap64 ((wrap64 (a0_3 * t343)) + a0_4))),(53,.int .i64 (wrap64 ((wrap64 ((wrap64 (a0_3 * t343)) + a0_4)) + (wrap64 (a0_5 * a0_0))))),(54,.int .u64 (IntKind.u64.wrap (wrap64 ((wrap64 ((wrap64 (a0_3 * t343)) + a0_4)) + (wrap64 (a0_5 * a0_0)))))),(38,.tuple #[.agg #[.int .u64 t344,.int .u64 t345],.bool t346]),(56,.agg #[.int .u64 t344,.int .u64 t345]),(57,.bool t346)]) (fun s_ w' => (w'.cell? ⟨gb338,0,none⟩ = some (.int .u64 t335) ∧ w'.cell? ⟨gb338,1,none⟩ = some (.int .u64 t336) ∧ w'.cell? ⟨gb330,0,none⟩ = some (.int .i64 a0_0) ∧ w'.cell? ⟨gb330,1,none⟩ = some (.int .i64 a0_1) ∧ w'.cell? ⟨gb330,2,none⟩ = some (.int .i64 a0_2) ∧ w'.cell? ⟨gb330,3,none⟩ = some (.int .i64 a0_3) ∧ w'.cell? ⟨gb330,4,none⟩ = some (.int .i64 a0_4) ∧ w'.cell? ⟨gb330,5,none⟩ = some (.int .i64 a0_5) ∧ w'.cell? ⟨gb330,6,none⟩ = some (.int .i64 a0_6) ∧ w'.cell? ⟨gb330,7,none⟩ = some (.int .i64 a0_7)) ∧ (w'.heap[gb330]? = some (.cells #[.int .i64 a0_0,.int .i64 a0_1,.int .i64 a0_2,.int .i64 a0_3,.int .i64 a0_4,.int .i64 a0_5,.int .i64 a0_6,.int .i64 a0_7] 23 (0,0))) ∧ (w'.heap[gb337]? = some (.cells #[.int .u64 t333,.int .u64 t334] 40 (0,0))) ∧ (w'.heap[gb338]? = some (.cells #[.int .u64 t335,.int .u64 t336] 40 (0,0))) ∧ (w'.heap[gb342]? = some (.cells #[.int .u64 t339,.int .u64 t340] 40 (0,0))) ∧ (w'.heap[s_]? = some (.cells #[.int .u64 0,.int .u64 0] 40 (0,0))) ∧ (w.heap.size ≤ s_) ∧ (w.heap.size ≤ s_) ∧ (gb330 ≠ s_) ∧ (s_ ≠ gb330) ∧ (gb337 ≠ s_) ∧ (s_ ≠ gb337) ∧ (gb338 ≠ s_) ∧ (s_ ≠ gb338) ∧ (gb342 ≠ s_) ∧ (s_ ≠ gb342) ∧ (Below w.heap.size w w')) ?_ ?_
    rotate_left
    ·intro hCont
     refine two_ (i:=4) (j:=20) (Ni:=some 43) (Nj:=some 7) #[yy,yy,yy,yy,yy,nn,yy,yy,nn,yy,yy,yy,yy,yy,nn,nn,nn,nn,nn,nn,nn,nn,nn] #[yy,yy,yy,yy,nn,nn,yy,yy,nn,yy,yy,yy,yy,yy,nn,nn,nn,nn,nn,nn,yy,nn,nn] rfl rfl rfl rfl (two_of HT_.out (by kernel_rfl)) (by decide) (by decide) (fun K hK => ?_) (fun K hK => ?_)
     ·skip
      refine goes_ Tryd.func31 (by kernel_rfl) rfl #[.agg #[.int .i64 a0_0,.int .i64 a0_1,.int .i64 a0_2,.int .i64 a0_3,.int .i64 a0_4,.int .i64 a0_5,.int .i64 a0_6,.int .i64 a0_7]] (by rfl) rfl rfl aA ?_
      with_reducible refine (backfillref11_bound.calls a0_0 a0_1 a0_2 a0_3 a0_4 a0_5 a0_6 a0_7 t343 _ A20.out).mono ?_
      rintro e w46 ⟨rfl,hb⟩
      refine ⟨_,rfl,?_⟩;have n0_:=Am (blk_below (g:=gb330) kA hb);have n1_:=Am (blk_below (g:=gb337) kA hb);have n2_:=Am (blk_below (g:=gb338) kA hb);have n3_:=Am (blk_below (g:=gb342) kA hb);have n4_:=Am (below_step bA hb);clear BK330 BK337 BK338 BK342 HB;have BK330:=n0_;have BK337:=n1_;have BK338:=n2_;have BK342:=n3_;have HB:=n4_;clear n0_ n1_ n2_ n3_ n4_;(try clear hb)
      refine hK.out _ _ ⟨(blk_cell BK338.out 0).trans rfl,(blk_cell BK338.out 1).trans rfl,(blk_cell BK330.out 0).trans rfl,(blk_cell BK330.out 1).trans rfl,(blk_cell BK330.out 2).trans rfl,(blk_cell BK330.out 3).trans rfl,(blk_cell BK330.out 4).trans rfl,(blk_cell BK330.out 5).trans rfl,(blk_cell BK330.out 6).trans rfl,(blk_cell BK330.out 7).trans rfl⟩ (fun hHeld => ?_)
      clear hK K
      refine norm_ (a':=?_) ?_ ?_
      rotate_left
      ·show Act.put _ (some 43) _ = _
       simp only [NR]
       rfl
      refine pure_ (i:=5) (N:=some 44) (v:=?_) (a':=?_) #[yy,yy,yy,yy,yy,yy,yy,yy,nn,yy,yy,yy,yy,yy,nn,nn,nn,nn,nn,nn,nn,nn,nn] rfl rfl (any_of HT_.out (by kernel_rfl)) (fun _ _ _ h => h) (Or.inl ⟨by rfl,?_⟩) ?_ ?_
      rotate_left
      ·intro w'
       go_simp;with_reducible rfl
      rotate_left
      ·simp only [NR]
       rfl
      refine pure_ (i:=8) (N:=some 47) (v:=?_) (a':=?_) #[yy,yy,yy,yy,yy,yy,yy,yy,yy,yy,yy,yy,yy,yy,nn,nn,nn,nn,nn,nn,nn,nn,nn] rfl rfl (any_of HT_.out (by kernel_rfl)) (fun _ _ _ h => h) (Or.inl ⟨by rfl,?_⟩) ?_ ?_
      rotate_left
      ·intro w'
       go_simp;with_reducible rfl
      rotate_left
      ·simp only [NR]
       rfl
      refine pure_ (i:=14) (N:=some 53) (v:=?_) (a':=?_) #[yy,yy,yy,yy,yy,yy,yy,yy,yy,yy,yy,yy,yy,yy,yy,nn,nn,nn,nn,nn,nn,nn,nn] rfl rfl (any_of HT_.out (by kernel_rfl)) (fun _ _ _ h => h) (Or.inl ⟨by rfl,?_⟩) ?_ ?_
      rotate_left
      ·intro w'
       go_simp;with_reducible rfl
      rotate_left
      ·simp only [NR]
       rfl
      refine pure_ (i:=15) (N:=some 54) (v:=?_) (a':=?_) #[yy,yy,yy,yy,yy,yy,yy,yy,yy,yy,yy,yy,yy,yy,yy,yy,nn,nn,nn,nn,nn,nn,nn] rfl rfl (any_of HT_.out (by kernel_rfl)) (fun _ _ _ h => h) (Or.inl ⟨by rfl,?_⟩) ?_ ?_
      rotate_left
      ·intro w'
       go_simp;with_reducible rfl
      rotate_left
      ·simp only [NR]
       rfl
      refine two_ (i:=16) (j:=20) (Ni:=some 55) (Nj:=some 7) #[yy,yy,yy,yy,yy,yy,yy,yy,yy,yy,yy,yy,yy,yy,yy,yy,yy,nn,nn,nn,nn,nn,nn] #[yy,yy,yy,yy,yy,yy,yy,yy,yy,yy,yy,yy,yy,yy,yy,yy,nn,nn,nn,nn,yy,nn,nn] rfl rfl rfl rfl (two_of HT_.out (by kernel_rfl)) (by decide) (by decide) (fun K hK => ?_) (fun K hK => ?_)
      ·skip
       refine goes_ Tryd.func30 (by kernel_rfl) rfl #[.agg #[.int .u64 t335,.int .u64 t336],.int .u64 (IntKind.u64.wrap (wrap64 ((wrap64 ((wrap64 (a0_3 * t343)) + a0_4)) + (wrap64 (a0_5 * a0_0)))))] (by rfl) rfl rfl aA ?_
       with_reducible refine (backfillref01_Times.calls t335 t336 (IntKind.u64.wrap (wrap64 ((wrap64 ((wrap64 (a0_3 * t343)) + a0_4)) + (wrap64 (a0_5 * a0_0))))) t344 t345 t346 _ A21.out).mono ?_
       rintro e w47 ⟨rfl,hb⟩
       refine ⟨_,rfl,?_⟩;have n0_:=Am (blk_below (g:=gb330) kA hb);have n1_:=Am (blk_below (g:=gb337) kA hb);have n2_:=Am (blk_below (g:=gb338) kA hb);have n3_:=Am (blk_below (g:=gb342) kA hb);have n4_:=Am (below_step bA hb);clear BK330 BK337 BK338 BK342 HB;have BK330:=n0_;have BK337:=n1_;have BK338:=n2_;have BK342:=n3_;have HB:=n4_;clear n0_ n1_ n2_ n3_ n4_;(try clear hb)
       refine hK.out _ _ ⟨(blk_cell BK338.out 0).trans rfl,(blk_cell BK338.out 1).trans rfl,(blk_cell BK330.out 0).trans rfl,(blk_cell BK330.out 1).trans rfl,(blk_cell BK330.out 2).trans rfl,(blk_cell BK330.out 3).trans rfl,(blk_cell BK330.out 4).trans rfl,(blk_cell BK330.out 5).trans rfl,(blk_cell BK330.out 6).trans rfl,(blk_cell BK330.out 7).trans rfl⟩ (fun hHeld => ?_)
       clear hK K
       refine norm_ (a':=?_) ?_ ?_
       rotate_left
       ·show Act.put _ (some 55) _ = _
        simp only [NR]
        rfl
       refine pure_ (i:=17) (N:=some 38) (v:=?_) (a':=?_) #[yy,yy,yy,yy,yy,yy,yy,yy,yy,yy,yy,yy,yy,yy,yy,yy,yy,yy,nn,nn,nn,nn,nn] rfl rfl (any_of HT_.out (by kernel_rfl)) (fun _ _ _ h => h) (Or.inl ⟨by rfl,?_⟩) ?_ ?_
       rotate_left
       ·intro w'
        go_simp;with_reducible rfl
       rotate_left
       ·simp only [NR]
        rfl
       refine pure_ (i:=18) (N:=some 56) (v:=?_) (a':=?_) #[yy,yy,yy,yy,yy,yy,yy,yy,yy,yy,yy,yy,yy,yy,yy,yy,yy,yy,yy,nn,nn,nn,nn] rfl rfl (any_of HT_.out (by kernel_rfl)) (fun _ _ _ h => h) (Or.inl ⟨by rfl,?_⟩) ?_ ?_
       rotate_left
       ·intro w'
        go_simp;with_reducible rfl
       rotate_left
       ·simp only [NR]
        rfl
       refine pure_ (i:=19) (N:=some 57) (v:=?_) (a':=?_) #[yy,yy,yy,yy,yy,yy,yy,yy,yy,yy,yy,yy,yy,yy,yy,yy,yy,yy,yy,yy,nn,nn,nn] rfl rfl (any_of HT_.out (by kernel_rfl)) (fun _ _ _ h => h) (Or.inl ⟨by rfl,?_⟩) ?_ ?_
       rotate_left
       ·intro w'
        go_simp;with_reducible rfl
       rotate_left
       ·simp only [NR]
        rfl
       refine one_ (i:=20) (N:=some 7) #[yy,yy,yy,yy,yy,yy,yy,yy,yy,yy,yy,yy,yy,yy,yy,yy,yy,yy,yy,yy,yy,nn,nn] rfl rfl (one_of HT_.out (by kernel_rfl)) (by decide) (fun K hK => ?_)
       refine box_step ?hg (N:=7) ?hd (cs:=#[.int .u64 0,.int .u64 0]) (t:=40) ?hr ?_;(case hd => rfl);(case hg => rfl);(case hr => first | (go_simp;done) | (go_simp;rfl))
       intro gb347 hg w48 hbox hb
       have n0_:=Am (blk_below (g:=gb330) kA hb);have n1_:=Am (blk_below (g:=gb337) kA hb);have n2_:=Am (blk_below (g:=gb338) kA hb);have n3_:=Am (blk_below (g:=gb342) kA hb);have n4_:=Am (below_step bA hb);have n5_:=Am (hbox);have n6_:=Am (gwA hg bA);have n7_:=Am (gwA hg bA);have n8_:=Am (neA (g:=gb330) hg kA);have n9_:=Am (neB (g:=gb330) hg kA);have n10_:=Am (neA (g:=gb337) hg kA);have n11_:=Am (neB (g:=gb337) hg kA);have n12_:=Am (neA (g:=gb338) hg kA);have n13_:=Am (neB (g:=gb338) hg kA);have n14_:=Am (neA (g:=gb342) hg kA);have n15_:=Am (neB (g:=gb342) hg kA);clear BK330 BK337 BK338 BK342 HB;have BK330:=n0_;have BK337:=n1_;have BK338:=n2_;have BK342:=n3_;have HB:=n4_;have BK347:=n5_;have GW347:=n6_;have GE347:=n7_;have NB330_347:=n8_;have NB347_330:=n9_;have NB337_347:=n10_;have NB347_337:=n11_;have NB338_347:=n12_;have NB347_338:=n13_;have NB342_347:=n14_;have NB347_342:=n15_;clear n0_ n1_ n2_ n3_ n4_ n5_ n6_ n7_ n8_ n9_ n10_ n11_ n12_ n13_ n14_ n15_ hb hbox hg
       refine hK.out _ _ ⟨(blk_cell BK338.out 0).trans rfl,(blk_cell BK338.out 1).trans rfl,(blk_cell BK330.out 0).trans rfl,(blk_cell BK330.out 1).trans rfl,(blk_cell BK330.out 2).trans rfl,(blk_cell BK330.out 3).trans rfl,(blk_cell BK330.out 4).trans rfl,(blk_cell BK330.out 5).trans rfl,(blk_cell BK330.out 6).trans rfl,(blk_cell BK330.out 7).trans rfl⟩ (fun hHeld => ?_)
       clear hK K
       refine norm_ (a':=?_) ?_ ?_
       rotate_left
       ·show Act.put _ (some 7) _ = _
        simp only [NR]
        rfl
       exact norm_ (by simp only [putAll,Act.put,List.setIfInBounds_toArray,List.set_cons_zero,List.set_cons_succ]) (hCont (gb347) _ ⟨hHeld,kA,kA,kA,kA,kA,GW347.out,GE347.out,NB330_347.out,NB347_330.out,NB337_347.out,NB347_337.out,NB338_347.out,NB347_338.out,NB342_347.out,NB347_342.out,bA⟩)
      ·skip
       refine box_step ?hg (N:=7) ?hd (cs:=#[.int .u64 0,.int .u64 0]) (t:=40) ?hr ?_;(case hd => rfl);(case hg => rfl);(case hr => first | (go_simp;done) | (go_simp;rfl))
       intro gb347 hg w47 hbox hb
       have n0_:=Am (blk_below (g:=gb330) kA hb);have n1_:=Am (blk_below (g:=gb337) kA hb);have n2_:=Am (blk_below (g:=gb338) kA hb);have n3_:=Am (blk_below (g:=gb342) kA hb);have n4_:=Am (below_step bA hb);have n5_:=Am (hbox);have n6_:=Am (gwA hg bA);have n7_:=Am (gwA hg bA);have n8_:=Am (neA (g:=gb330) hg kA);have n9_:=Am (neB (g:=gb330) hg kA);have n10_:=Am (neA (g:=gb337) hg kA);have n11_:=Am (neB (g:=gb337) hg kA);have n12_:=Am (neA (g:=gb338) hg kA);have n13_:=Am (neB (g:=gb338) hg kA);have n14_:=Am (neA (g:=gb342) hg kA);have n15_:=Am (neB (g:=gb342) hg kA);clear BK330 BK337 BK338 BK342 HB;have BK330:=n0_;have BK337:=n1_;have BK338:=n2_;have BK342:=n3_;have HB:=n4_;have BK347:=n5_;have GW347:=n6_;have GE347:=n7_;have NB330_347:=n8_;have NB347_330:=n9_;have NB337_347:=n10_;have NB347_337:=n11_;have NB338_347:=n12_;have NB347_338:=n13_;have NB342_347:=n14_;have NB347_342:=n15_;clear n0_ n1_ n2_ n3_ n4_ n5_ n6_ n7_ n8_ n9_ n10_ n11_ n12_ n13_ n14_ n15_ hb hbox hg
       refine hK.out _ _ ⟨(blk_cell BK338.out 0).trans rfl,(blk_cell BK338.out 1).trans rfl,(blk_cell BK330.out 0).trans rfl,(blk_cell BK330.out 1).trans rfl,(blk_cell BK330.out 2).trans rfl,(blk_cell BK330.out 3).trans rfl,(blk_cell BK330.out 4).trans rfl,(blk_cell BK330.out 5).trans rfl,(blk_cell BK330.out 6).trans rfl,(blk_cell BK330.out 7).trans rfl⟩ (fun hHeld => ?_)
       clear hK K
       refine norm_ (a':=?_) ?_ ?_
       rotate_left
       ·show Act.put _ (some 7) _ = _
        simp only [NR]
        rfl
       refine one_ (i:=16) (N:=some 55) #[yy,yy,yy,yy,yy,yy,yy,yy,yy,yy,yy,yy,yy,yy,yy,yy,yy,nn,nn,nn,yy,nn,nn] rfl rfl (one_of HT_.out (by kernel_rfl)) (by decide) (fun K hK => ?_)
       refine goes_ Tryd.func30 (by kernel_rfl) rfl #[.agg #[.int .u64 t335,.int .u64 t336],.int .u64 (IntKind.u64.wrap (wrap64 ((wrap64 ((wrap64 (a0_3 * t343)) + a0_4)) + (wrap64 (a0_5 * a0_0)))))] (by rfl) rfl rfl aA ?_
       with_reducible refine (backfillref01_Times.calls t335 t336 (IntKind.u64.wrap (wrap64 ((wrap64 ((wrap64 (a0_3 * t343)) + a0_4)) + (wrap64 (a0_5 * a0_0))))) t344 t345 t346 _ A21.out).mono ?_
       rintro e w48 ⟨rfl,hb⟩
       refine ⟨_,rfl,?_⟩;have n0_:=Am (blk_below (g:=gb330) kA hb);have n1_:=Am (blk_below (g:=gb337) kA hb);have n2_:=Am (blk_below (g:=gb338) kA hb);have n3_:=Am (blk_below (g:=gb342) kA hb);have n4_:=Am (blk_below (g:=gb347) kA hb);have n5_:=Am (below_step bA hb);clear BK330 BK337 BK338 BK342 BK347 HB;have BK330:=n0_;have BK337:=n1_;have BK338:=n2_;have BK342:=n3_;have BK347:=n4_;have HB:=n5_;clear n0_ n1_ n2_ n3_ n4_ n5_;(try clear hb)
       refine hK.out _ _ ⟨(blk_cell BK338.out 0).trans rfl,(blk_cell BK338.out 1).trans rfl,(blk_cell BK330.out 0).trans rfl,(blk_cell BK330.out 1).trans rfl,(blk_cell BK330.out 2).trans rfl,(blk_cell BK330.out 3).trans rfl,(blk_cell BK330.out 4).trans rfl,(blk_cell BK330.out 5).trans rfl,(blk_cell BK330.out 6).trans rfl,(blk_cell BK330.out 7).trans rfl⟩ (fun hHeld => ?_)
       clear hK K
       refine norm_ (a':=?_) ?_ ?_
       rotate_left
       ·show Act.put _ (some 55) _ = _
        simp only [NR]
        rfl
       refine pure_ (i:=17) (N:=some 38) (v:=?_) (a':=?_) #[yy,yy,yy,yy,yy,yy,yy,yy,yy,yy,yy,yy,yy,yy,yy,yy,yy,yy,nn,nn,yy,nn,nn] rfl rfl (any_of HT_.out (by kernel_rfl)) (fun _ _ _ h => h) (Or.inl ⟨by rfl,?_⟩) ?_ ?_
       rotate_left
       ·intro w'
        go_simp;with_reducible rfl
       rotate_left
       ·simp only [NR]
        rfl
       refine pure_ (i:=18) (N:=some 56) (v:=?_) (a':=?_) #[yy,yy,yy,yy,yy,yy,yy,yy,yy,yy,yy,yy,yy,yy,yy,yy,yy,yy,yy,nn,yy,nn,nn] rfl rfl (any_of HT_.out (by kernel_rfl)) (fun _ _ _ h => h) (Or.inl ⟨by rfl,?_⟩) ?_ ?_
       rotate_left
       ·intro w'
        go_simp;with_reducible rfl
       rotate_left
       ·simp only [NR]
        rfl
       refine pure_ (i:=19) (N:=some 57) (v:=?_) (a':=?_) #[yy,yy,yy,yy,yy,yy,yy,yy,yy,yy,yy,yy,yy,yy,yy,yy,yy,yy,yy,yy,yy,nn,nn] rfl rfl (any_of HT_.out (by kernel_rfl)) (fun _ _ _ h => h) (Or.inl ⟨by rfl,?_⟩) ?_ ?_
       rotate_left
       ·intro w'
        go_simp;with_reducible rfl
       rotate_left
       ·simp only [NR]
        rfl
       exact norm_ (by simp only [putAll,Act.put,List.setIfInBounds_toArray,List.set_cons_zero,List.set_cons_succ]) (hCont (gb347) _ ⟨hHeld,kA,kA,kA,kA,kA,GW347.out,GE347.out,NB330_347.out,NB347_330.out,NB337_347.out,NB347_337.out,NB338_347.out,NB347_338.out,NB342_347.out,NB347_342.out,bA⟩)
     ·skip
      refine box_step ?hg (N:=7) ?hd (cs:=#[.int .u64 0,.int .u64 0]) (t:=40) ?hr ?_;(case hd => rfl);(case hg => rfl);(case hr => first | (go_simp;done) | (go_simp;rfl))
      intro gb347 hg w46 hbox hb
      have n0_:=Am (blk_below (g:=gb330) kA hb);have n1_:=Am (blk_below (g:=gb337) kA hb);have n2_:=Am (blk_below (g:=gb338) kA hb);have n3_:=Am (blk_below (g:=gb342) kA hb);have n4_:=Am (below_step bA hb);have n5_:=Am (hbox);have n6_:=Am (gwA hg bA);have n7_:=Am (gwA hg bA);have n8_:=Am (neA (g:=gb330) hg kA);have n9_:=Am (neB (g:=gb330) hg kA);have n10_:=Am (neA (g:=gb337) hg kA);have n11_:=Am (neB (g:=gb337) hg kA);have n12_:=Am (neA (g:=gb338) hg kA);have n13_:=Am (neB (g:=gb338) hg kA);have n14_:=Am (neA (g:=gb342) hg kA);have n15_:=Am (neB (g:=gb342) hg kA);clear BK330 BK337 BK338 BK342 HB;have BK330:=n0_;have BK337:=n1_;have BK338:=n2_;have BK342:=n3_;have HB:=n4_;have BK347:=n5_;have GW347:=n6_;have GE347:=n7_;have NB330_347:=n8_;have NB347_330:=n9_;have NB337_347:=n10_;have NB347_337:=n11_;have NB338_347:=n12_;have NB347_338:=n13_;have NB342_347:=n14_;have NB347_342:=n15_;clear n0_ n1_ n2_ n3_ n4_ n5_ n6_ n7_ n8_ n9_ n10_ n11_ n12_ n13_ n14_ n15_ hb hbox hg
      refine hK.out _ _ ⟨(blk_cell BK338.out 0).trans rfl,(blk_cell BK338.out 1).trans rfl,(blk_cell BK330.out 0).trans rfl,(blk_cell BK330.out 1).trans rfl,(blk_cell BK330.out 2).trans rfl,(blk_cell BK330.out 3).trans rfl,(blk_cell BK330.out 4).trans rfl,(blk_cell BK330.out 5).trans rfl,(blk_cell BK330.out 6).trans rfl,(blk_cell BK330.out 7).trans rfl⟩ (fun hHeld => ?_)
      clear hK K
      refine norm_ (a':=?_) ?_ ?_
      rotate_left
      ·show Act.put _ (some 7) _ = _
       simp only [NR]
       rfl
      refine one_ (i:=4) (N:=some 43) #[yy,yy,yy,yy,yy,nn,yy,yy,nn,yy,yy,yy,yy,yy,nn,nn,nn,nn,nn,nn,yy,nn,nn] rfl rfl (one_of HT_.out (by kernel_rfl)) (by decide) (fun K hK => ?_)
      refine goes_ Tryd.func31 (by kernel_rfl) rfl #[.agg #[.int .i64 a0_0,.int .i64 a0_1,.int .i64 a0_2,.int .i64 a0_3,.int .i64 a0_4,.int .i64 a0_5,.int .i64 a0_6,.int .i64 a0_7]] (by rfl) rfl rfl aA ?_
      with_reducible refine (backfillref11_bound.calls a0_0 a0_1 a0_2 a0_3 a0_4 a0_5 a0_6 a0_7 t343 _ A20.out).mono ?_
      rintro e w47 ⟨rfl,hb⟩
      refine ⟨_,rfl,?_⟩;have n0_:=Am (blk_below (g:=gb330) kA hb);have n1_:=Am (blk_below (g:=gb337) kA hb);have n2_:=Am (blk_below (g:=gb338) kA hb);have n3_:=Am (blk_below (g:=gb342) kA hb);have n4_:=Am (blk_below (g:=gb347) kA hb);have n5_:=Am (below_step bA hb);clear BK330 BK337 BK338 BK342 BK347 HB;have BK330:=n0_;have BK337:=n1_;have BK338:=n2_;have BK342:=n3_;have BK347:=n4_;have HB:=n5_;clear n0_ n1_ n2_ n3_ n4_ n5_;(try clear hb)
      refine hK.out _ _ ⟨(blk_cell BK338.out 0).trans rfl,(blk_cell BK338.out 1).trans rfl,(blk_cell BK330.out 0).trans rfl,(blk_cell BK330.out 1).trans rfl,(blk_cell BK330.out 2).trans rfl,(blk_cell BK330.out 3).trans rfl,(blk_cell BK330.out 4).trans rfl,(blk_cell BK330.out 5).trans rfl,(blk_cell BK330.out 6).trans rfl,(blk_cell BK330.out 7).trans rfl⟩ (fun hHeld => ?_)
      clear hK K
      refine norm_ (a':=?_) ?_ ?_
      rotate_left
      ·show Act.put _ (some 43) _ = _
       simp only [NR]
       rfl
      refine pure_ (i:=5) (N:=some 44) (v:=?_) (a':=?_) #[yy,yy,yy,yy,yy,yy,yy,yy,nn,yy,yy,yy,yy,yy,nn,nn,nn,nn,nn,nn,yy,nn,nn] rfl rfl (any_of HT_.out (by kernel_rfl)) (fun _ _ _ h => h) (Or.inl ⟨by rfl,?_⟩) ?_ ?_
      rotate_left
      ·intro w'
       go_simp;with_reducible rfl
      rotate_left
      ·simp only [NR]
       rfl
      refine pure_ (i:=8) (N:=some 47) (v:=?_) (a':=?_) #[yy,yy,yy,yy,yy,yy,yy,yy,yy,yy,yy,yy,yy,yy,nn,nn,nn,nn,nn,nn,yy,nn,nn] rfl rfl (any_of HT_.out (by kernel_rfl)) (fun _ _ _ h => h) (Or.inl ⟨by rfl,?_⟩) ?_ ?_
      rotate_left
      ·intro w'
       go_simp;with_reducible rfl
      rotate_left
      ·simp only [NR]
       rfl
      refine pure_ (i:=14) (N:=some 53) (v:=?_) (a':=?_) #[yy,yy,yy,yy,yy,yy,yy,yy,yy,yy,yy,yy,yy,yy,yy,nn,nn,nn,nn,nn,yy,nn,nn] rfl rfl (any_of HT_.out (by kernel_rfl)) (fun _ _ _ h => h) (Or.inl ⟨by rfl,?_⟩) ?_ ?_
      rotate_left
      ·intro w'
       go_simp;with_reducible rfl
      rotate_left
      ·simp only [NR]
       rfl
      refine pure_ (i:=15) (N:=some 54) (v:=?_) (a':=?_) #[yy,yy,yy,yy,yy,yy,yy,yy,yy,yy,yy,yy,yy,yy,yy,yy,nn,nn,nn,nn,yy,nn,nn] rfl rfl (any_of HT_.out (by kernel_rfl)) (fun _ _ _ h => h) (Or.inl ⟨by rfl,?_⟩) ?_ ?_
      rotate_left
      ·intro w'
       go_simp;with_reducible rfl
      rotate_left
      ·simp only [NR]
       rfl
      refine one_ (i:=16) (N:=some 55) #[yy,yy,yy,yy,yy,yy,yy,yy,yy,yy,yy,yy,yy,yy,yy,yy,yy,nn,nn,nn,yy,nn,nn] rfl rfl (one_of HT_.out (by kernel_rfl)) (by decide) (fun K hK => ?_)
      refine goes_ Tryd.func30 (by kernel_rfl) rfl #[.agg #[.int .u64 t335,.int .u64 t336],.int .u64 (IntKind.u64.wrap (wrap64 ((wrap64 ((wrap64 (a0_3 * t343)) + a0_4)) + (wrap64 (a0_5 * a0_0)))))] (by rfl) rfl rfl aA ?_
      with_reducible refine (backfillref01_Times.calls t335 t336 (IntKind.u64.wrap (wrap64 ((wrap64 ((wrap64 (a0_3 * t343)) + a0_4)) + (wrap64 (a0_5 * a0_0))))) t344 t345 t346 _ A21.out).mono ?_
      rintro e w48 ⟨rfl,hb⟩
      refine ⟨_,rfl,?_⟩;have n0_:=Am (blk_below (g:=gb330) kA hb);have n1_:=Am (blk_below (g:=gb337) kA hb);have n2_:=Am (blk_below (g:=gb338) kA hb);have n3_:=Am (blk_below (g:=gb342) kA hb);have n4_:=Am (blk_below (g:=gb347) kA hb);have n5_:=Am (below_step bA hb);clear BK330 BK337 BK338 BK342 BK347 HB;have BK330:=n0_;have BK337:=n1_;have BK338:=n2_;have BK342:=n3_;have BK347:=n4_;have HB:=n5_;clear n0_ n1_ n2_ n3_ n4_ n5_;(try clear hb)
      refine hK.out _ _ ⟨(blk_cell BK338.out 0).trans rfl,(blk_cell BK338.out 1).trans rfl,(blk_cell BK330.out 0).trans rfl,(blk_cell BK330.out 1).trans rfl,(blk_cell BK330.out 2).trans rfl,(blk_cell BK330.out 3).trans rfl,(blk_cell BK330.out 4).trans rfl,(blk_cell BK330.out 5).trans rfl,(blk_cell BK330.out 6).trans rfl,(blk_cell BK330.out 7).trans rfl⟩ (fun hHeld => ?_)
      clear hK K
      refine norm_ (a':=?_) ?_ ?_
      rotate_left
      ·show Act.put _ (some 55) _ = _
       simp only [NR]
       rfl
      refine pure_ (i:=17) (N:=some 38) (v:=?_) (a':=?_) #[yy,yy,yy,yy,yy,yy,yy,yy,yy,yy,yy,yy,yy,yy,yy,yy,yy,yy,nn,nn,yy,nn,nn] rfl rfl (any_of HT_.out (by kernel_rfl)) (fun _ _ _ h => h) (Or.inl ⟨by rfl,?_⟩) ?_ ?_
      rotate_left
      ·intro w'
       go_simp;with_reducible rfl
      rotate_left
      ·simp only [NR]
       rfl
      refine pure_ (i:=18) (N:=some 56) (v:=?_) (a':=?_) #[yy,yy,yy,yy,yy,yy,yy,yy,yy,yy,yy,yy,yy,yy,yy,yy,yy,yy,yy,nn,yy,nn,nn] rfl rfl (any_of HT_.out (by kernel_rfl)) (fun _ _ _ h => h) (Or.inl ⟨by rfl,?_⟩) ?_ ?_
      rotate_left
      ·intro w'
       go_simp;with_reducible rfl
      rotate_left
      ·simp only [NR]
       rfl
      refine pure_ (i:=19) (N:=some 57) (v:=?_) (a':=?_) #[yy,yy,yy,yy,yy,yy,yy,yy,yy,yy,yy,yy,yy,yy,yy,yy,yy,yy,yy,yy,yy,nn,nn] rfl rfl (any_of HT_.out (by kernel_rfl)) (fun _ _ _ h => h) (Or.inl ⟨by rfl,?_⟩) ?_ ?_
      rotate_left
      ·intro w'
       go_simp;with_reducible rfl
      rotate_left
      ·simp only [NR]
       rfl
      exact norm_ (by simp only [putAll,Act.put,List.setIfInBounds_toArray,List.set_cons_zero,List.set_cons_succ]) (hCont (gb347) _ ⟨hHeld,kA,kA,kA,kA,kA,GW347.out,GE347.out,NB330_347.out,NB347_330.out,NB337_347.out,NB347_337.out,NB338_347.out,NB347_338.out,NB342_347.out,NB347_342.out,bA⟩)
    rintro gb347 w49 ⟨hS_,h0_,h1_,h2_,h3_,h4_,h5_,h6_,h7_,h8_,h9_,h10_,h11_,h12_,h13_,h14_,h15_⟩
    have n0_ : Aside0 (w49.heap[gb330]? = some (.cells #[.int .i64 a0_0,.int .i64 a0_1,.int .i64 a0_2,.int .i64 a0_3,.int .i64 a0_4,.int .i64 a0_5,.int .i64 a0_6,.int .i64 a0_7] 23 (0,0))):=⟨h0_⟩
    have n1_ : Aside0 (w49.heap[gb337]? = some (.cells #[.int .u64 t333,.int .u64 t334] 40 (0,0))):=⟨h1_⟩
    have n2_ : Aside0 (w49.heap[gb338]? = some (.cells #[.int .u64 t335,.int .u64 t336] 40 (0,0))):=⟨h2_⟩
    have n3_ : Aside0 (w49.heap[gb342]? = some (.cells #[.int .u64 t339,.int .u64 t340] 40 (0,0))):=⟨h3_⟩
    have n4_ : Aside0 (w49.heap[gb347]? = some (.cells #[.int .u64 0,.int .u64 0] 40 (0,0))):=⟨h4_⟩
    have n5_ : Aside0 (w.heap.size ≤ gb347):=⟨h5_⟩
    have n6_ : Aside0 (w.heap.size ≤ gb347):=⟨h6_⟩
    have n7_ : Aside0 (gb330 ≠ gb347):=⟨h7_⟩
    have n8_ : Aside0 (gb347 ≠ gb330):=⟨h8_⟩
    have n9_ : Aside0 (gb337 ≠ gb347):=⟨h9_⟩
    have n10_ : Aside0 (gb347 ≠ gb337):=⟨h10_⟩
    have n11_ : Aside0 (gb338 ≠ gb347):=⟨h11_⟩
    have n12_ : Aside0 (gb347 ≠ gb338):=⟨h12_⟩
    have n13_ : Aside0 (gb342 ≠ gb347):=⟨h13_⟩
    have n14_ : Aside0 (gb347 ≠ gb342):=⟨h14_⟩
    have n15_ : Aside0 (Below w.heap.size w w49):=⟨h15_⟩
    clear BK330 BK337 BK338 BK342 HB h0_ h1_ h2_ h3_ h4_ h5_ h6_ h7_ h8_ h9_ h10_ h11_ h12_ h13_ h14_ h15_;have BK330:=n0_;have BK337:=n1_;have BK338:=n2_;have BK342:=n3_;have BK347:=n4_;have GW347:=n5_;have GE347:=n6_;have NB330_347:=n7_;have NB347_330:=n8_;have NB337_347:=n9_;have NB347_337:=n10_;have NB338_347:=n11_;have NB347_338:=n12_;have NB342_347:=n13_;have NB347_342:=n14_;have HB:=n15_;clear n0_ n1_ n2_ n3_ n4_ n5_ n6_ n7_ n8_ n9_ n10_ n11_ n12_ n13_ n14_ n15_
    have hHeld : w49.cell? ⟨gb338,0,none⟩ = some (.int .u64 t335) ∧ w49.cell? ⟨gb338,1,none⟩ = some (.int .u64 t336) ∧ w49.cell? ⟨gb330,0,none⟩ = some (.int .i64 a0_0) ∧ w49.cell? ⟨gb330,1,none⟩ = some (.int .i64 a0_1) ∧ w49.cell? ⟨gb330,2,none⟩ = some (.int .i64 a0_2) ∧ w49.cell? ⟨gb330,3,none⟩ = some (.int .i64 a0_3) ∧ w49.cell? ⟨gb330,4,none⟩ = some (.int .i64 a0_4) ∧ w49.cell? ⟨gb330,5,none⟩ = some (.int .i64 a0_5) ∧ w49.cell? ⟨gb330,6,none⟩ = some (.int .i64 a0_6) ∧ w49.cell? ⟨gb330,7,none⟩ = some (.int .i64 a0_7):=hS_
    refine norm_ (a':=?_) ?_ ?_
    rotate_left
    ·simp only [putAll,Act.put,List.setIfInBounds_toArray,List.set_cons_zero,List.set_cons_succ]
     rfl
    refine one_ (i:=21) (N:=none) #[yy,yy,yy,yy,yy,yy,yy,yy,yy,yy,yy,yy,yy,yy,yy,yy,yy,yy,yy,yy,yy,yy,nn] rfl rfl (one_of HT_.out (by kernel_rfl)) (by decide) (fun K hK => ?_)
    have hs50 : w49.cell? ⟨gb347,0,none⟩ = some (.int .u64 0):=(blk_cell BK347.out 0).trans rfl
    have hfs50:=blk_frozen BK347.out 0
    have hns50_0:=NB330_347.out
    have hns50_1:=NB337_347.out
    have hns50_2:=NB338_347.out
    have hns50_3:=NB342_347.out
    have hms50_0:=NB347_330.out
    have hms50_1:=NB347_337.out
    have hms50_2:=NB347_338.out
    have hms50_3:=NB347_342.out
    have hs51 : w49.cell? ⟨gb347,1,none⟩ = some (.int .u64 0):=(blk_cell BK347.out 1).trans rfl
    have hfs51:=blk_frozen BK347.out 1
    have hns51_0:=NB330_347.out
    have hns51_1:=NB337_347.out
    have hns51_2:=NB338_347.out
    have hns51_3:=NB342_347.out
    have hms51_0:=NB347_330.out
    have hms51_1:=NB347_337.out
    have hms51_2:=NB347_338.out
    have hms51_3:=NB347_342.out
    refine skip_ (w1:=?_) (by rfl) rfl ?_ ?_
    rotate_left
    ·go_simp
     rfl
    refine hK.out _ _ ⟨((cell_far (p:=⟨gb347,_,none⟩) NB338_347.out _).trans (((cell_far (p:=⟨gb347,_,none⟩) NB338_347.out _).trans (hHeld.1)))),((cell_far (p:=⟨gb347,_,none⟩) NB338_347.out _).trans (((cell_far (p:=⟨gb347,_,none⟩) NB338_347.out _).trans (hHeld.2.1)))),((cell_far (p:=⟨gb347,_,none⟩) NB330_347.out _).trans (((cell_far (p:=⟨gb347,_,none⟩) NB330_347.out _).trans (hHeld.2.2.1)))),((cell_far (p:=⟨gb347,_,none⟩) NB330_347.out _).trans (((cell_far (p:=⟨gb347,_,none⟩) NB330_347.out _).trans (hHeld.2.2.2.1)))),((cell_far (p:=⟨gb347,_,none⟩) NB330_347.out _).trans (((cell_far (p:=⟨gb347,_,none⟩) NB330_347.out _).trans (hHeld.2.2.2.2.1)))),((cell_far (p:=⟨gb347,_,none⟩) NB330_347.out _).trans (((cell_far (p:=⟨gb347,_,none⟩) NB330_347.out _).trans (hHeld.2.2.2.2.2.1)))),((cell_far (p:=⟨gb347,_,none⟩) NB330_347.out _).trans (((cell_far (p:=⟨gb347,_,none⟩) NB330_347.out _).trans (hHeld.2.2.2.2.2.2.1)))),((cell_far (p:=⟨gb347,_,none⟩) NB330_347.out _).trans (((cell_far (p:=⟨gb347,_,none⟩) NB330_347.out _).trans (hHeld.2.2.2.2.2.2.2.1)))),((cell_far (p:=⟨gb347,_,none⟩) NB330_347.out _).trans (((cell_far (p:=⟨gb347,_,none⟩) NB330_347.out _).trans (hHeld.2.2.2.2.2.2.2.2.1)))),((cell_far (p:=⟨gb347,_,none⟩) NB330_347.out _).trans (((cell_far (p:=⟨gb347,_,none⟩) NB330_347.out _).trans (hHeld.2.2.2.2.2.2.2.2.2))))⟩ (fun hHeld => ?_)
    clear hK K
    refine pure_ (i:=22) (N:=some 8) (v:=?_) (a':=?_) #[yy,yy,yy,yy,yy,yy,yy,yy,yy,yy,yy,yy,yy,yy,yy,yy,yy,yy,yy,yy,yy,yy,yy] rfl rfl (any_of HT_.out (by kernel_rfl)) (fun _ _ _ h => h) (Or.inl ⟨by rfl,?_⟩) ?_ ?_
    rotate_left
    ·intro w'
     go_simp;with_reducible rfl
    rotate_left
    ·simp only [NR]
     rfl
    refine done_ (done_of HT_.out (by kernel_rfl)) ?_
    have hnb52:=NB342_347.out
    have hnc52:=NB347_342.out
    have hcz53_0 : w49.cell? ⟨gb342,0,none⟩ = some (.int .u64 t339):=(blk_cell BK342.out 0).trans rfl
    have hcz53_1 : w49.cell? ⟨gb342,1,none⟩ = some (.int .u64 t340):=(blk_cell BK342.out 1).trans rfl
    have hfz53_0:=blk_frozen BK342.out 0
    have hfz53_1:=blk_frozen BK342.out 1
    have hnb54:=NB347_330.out
    have hnc54:=NB330_347.out
    have hnb55:=NB347_337.out
    have hnc55:=NB337_347.out
    have hnb56:=NB347_338.out
    have hnc56:=NB338_347.out
    have hcz57_0 : w49.cell? ⟨gb347,0,none⟩ = some (.int .u64 0):=(blk_cell BK347.out 0).trans rfl
    have hcz57_1 : w49.cell? ⟨gb347,1,none⟩ = some (.int .u64 0):=(blk_cell BK347.out 1).trans rfl
    have hfz57_0:=blk_frozen BK347.out 0
    have hfz57_1:=blk_frozen BK347.out 1
    by_cases c23 : t348 > 0
    ·rw [if_pos c23] at H
     have c23b0 : decide (0 < t348) = true:=decide_eq_true c23
     clear c23
     obtain rfl:=Option.some.inj H
     try go_wp2_with (first | ((with_reducible refine gate_callee (f:=11) rfl ?_);refine goesL_ (some 60) rfl rfl Tryd.func11 (by kernel_rfl) rfl #[.agg #[.int .u64 t339,.int .u64 t340],.agg #[.int .u64 t344,.int .u64 t345]] rfl aA ?_;(with_reducible refine (backfillref01_Cmp.calls k t339 t340 t344 t345 t348 _ A22.out).mono ?_);rintro e w58 ⟨rfl,hb⟩;refine ⟨_,rfl,?_⟩;have n0_:=Am (blk_below (g:=gb330) (o:=.cells #[.int .i64 a0_0,.int .i64 a0_1,.int .i64 a0_2,.int .i64 a0_3,.int .i64 a0_4,.int .i64 a0_5,.int .i64 a0_6,.int .i64 a0_7] 23 (0,0)) (by (with_reducible repeat (first | refine b1 ?_ _ | refine b2 ?_ | refine b3 ?_ _));refine blk_far ?_ NB330_347.out _;(with_reducible repeat (first | refine b1 ?_ _ | refine b2 ?_ | refine b3 ?_ _));refine blk_far ?_ NB330_347.out _;exact kA) hb);have n1_:=Am (blk_below (g:=gb337) (o:=.cells #[.int .u64 t333,.int .u64 t334] 40 (0,0)) (by (with_reducible repeat (first | refine b1 ?_ _ | refine b2 ?_ | refine b3 ?_ _));refine blk_far ?_ NB337_347.out _;(with_reducible repeat (first | refine b1 ?_ _ | refine b2 ?_ | refine b3 ?_ _));refine blk_far ?_ NB337_347.out _;exact kA) hb);have n2_:=Am (blk_below (g:=gb338) (o:=.cells #[.int .u64 t335,.int .u64 t336] 40 (0,0)) (by (with_reducible repeat (first | refine b1 ?_ _ | refine b2 ?_ | refine b3 ?_ _));refine blk_far ?_ NB338_347.out _;(with_reducible repeat (first | refine b1 ?_ _ | refine b2 ?_ | refine b3 ?_ _));refine blk_far ?_ NB338_347.out _;exact kA) hb);have n3_:=Am (blk_below (g:=gb342) (o:=.cells #[.int .u64 t339,.int .u64 t340] 40 (0,0)) (by (with_reducible repeat (first | refine b1 ?_ _ | refine b2 ?_ | refine b3 ?_ _));refine blk_far ?_ NB342_347.out _;(with_reducible repeat (first | refine b1 ?_ _ | refine b2 ?_ | refine b3 ?_ _));refine blk_far ?_ NB342_347.out _;exact kA) hb);have n4_:=Am (blk_below (g:=gb347) (o:=.cells #[.int .u64 t344,.int .u64 t345] 40 (0,0)) (by (with_reducible repeat (first | refine b1 ?_ _ | refine b2 ?_ | refine b3 ?_ _));refine blk_put (cs:=#[.int .u64 t344,.int .u64 0]) ?_ 1 _ rfl;(with_reducible repeat (first | refine b1 ?_ _ | refine b2 ?_ | refine b3 ?_ _));refine blk_put (cs:=#[.int .u64 0,.int .u64 0]) ?_ 0 _ rfl;exact kA) hb);have n5_:=Am (below_step bA hb);clear BK330 BK337 BK338 BK342 BK347 HB;have BK330:=n0_;have BK337:=n1_;have BK338:=n2_;have BK342:=n3_;have BK347:=n4_;have HB:=n5_;clear n0_ n1_ n2_ n3_ n4_ n5_;(try clear hb)))
     go_ret
     exact ⟨by first | rfl | (simp [errW_none,errW_some] <;> rfl) | (simp [*,errW_none,errW_some] <;> rfl),bA⟩
    ·rw [if_neg c23] at H
     have c23b0 : decide (0 < t348) = false:=decide_eq_false c23
     clear c23
     obtain rfl:=Option.some.inj H
     try go_wp2_with (first | ((with_reducible refine gate_callee (f:=11) rfl ?_);refine goesL_ (some 60) rfl rfl Tryd.func11 (by kernel_rfl) rfl #[.agg #[.int .u64 t339,.int .u64 t340],.agg #[.int .u64 t344,.int .u64 t345]] rfl aA ?_;(with_reducible refine (backfillref01_Cmp.calls k t339 t340 t344 t345 t348 _ A22.out).mono ?_);rintro e w58 ⟨rfl,hb⟩;refine ⟨_,rfl,?_⟩;have n0_:=Am (blk_below (g:=gb330) (o:=.cells #[.int .i64 a0_0,.int .i64 a0_1,.int .i64 a0_2,.int .i64 a0_3,.int .i64 a0_4,.int .i64 a0_5,.int .i64 a0_6,.int .i64 a0_7] 23 (0,0)) (by (with_reducible repeat (first | refine b1 ?_ _ | refine b2 ?_ | refine b3 ?_ _));refine blk_far ?_ NB330_347.out _;(with_reducible repeat (first | refine b1 ?_ _ | refine b2 ?_ | refine b3 ?_ _));refine blk_far ?_ NB330_347.out _;exact kA) hb);have n1_:=Am (blk_below (g:=gb337) (o:=.cells #[.int .u64 t333,.int .u64 t334] 40 (0,0)) (by (with_reducible repeat (first | refine b1 ?_ _ | refine b2 ?_ | refine b3 ?_ _));refine blk_far ?_ NB337_347.out _;(with_reducible repeat (first | refine b1 ?_ _ | refine b2 ?_ | refine b3 ?_ _));refine blk_far ?_ NB337_347.out _;exact kA) hb);have n2_:=Am (blk_below (g:=gb338) (o:=.cells #[.int .u64 t335,.int .u64 t336] 40 (0,0)) (by (with_reducible repeat (first | refine b1 ?_ _ | refine b2 ?_ | refine b3 ?_ _));refine blk_far ?_ NB338_347.out _;(with_reducible repeat (first | refine b1 ?_ _ | refine b2 ?_ | refine b3 ?_ _));refine blk_far ?_ NB338_347.out _;exact kA) hb);have n3_:=Am (blk_below (g:=gb342) (o:=.cells #[.int .u64 t339,.int .u64 t340] 40 (0,0)) (by (with_reducible repeat (first | refine b1 ?_ _ | refine b2 ?_ | refine b3 ?_ _));refine blk_far ?_ NB342_347.out _;(with_reducible repeat (first | refine b1 ?_ _ | refine b2 ?_ | refine b3 ?_ _));refine blk_far ?_ NB342_347.out _;exact kA) hb);have n4_:=Am (blk_below (g:=gb347) (o:=.cells #[.int .u64 t344,.int .u64 t345] 40 (0,0)) (by (with_reducible repeat (first | refine b1 ?_ _ | refine b2 ?_ | refine b3 ?_ _));refine blk_put (cs:=#[.int .u64 t344,.int .u64 0]) ?_ 1 _ rfl;(with_reducible repeat (first | refine b1 ?_ _ | refine b2 ?_ | refine b3 ?_ _));refine blk_put (cs:=#[.int .u64 0,.int .u64 0]) ?_ 0 _ rfl;exact kA) hb);have n5_:=Am (below_step bA hb);clear BK330 BK337 BK338 BK342 BK347 HB;have BK330:=n0_;have BK337:=n1_;have BK338:=n2_;have BK342:=n3_;have BK347:=n4_;have HB:=n5_;clear n0_ n1_ n2_ n3_ n4_ n5_;(try clear hb)))
     go_ret
     exact ⟨by first | rfl | (simp [errW_none,errW_some] <;> rfl) | (simp [*,errW_none,errW_some] <;> rfl),bA⟩
 ·replace c3:=Bool.eq_false_iff.mpr c3
  subst c3
  have H1 : (some 110) = some r:=by rw [if_neg (show ¬ (false = true) by decide)] at H;exact H
  clear H
  have H:=H1
  clear H1
  obtain rfl:=Option.some.inj H
  go_enter Tryd.func10,Tryd.ntmps10
  go_wp2_with (first | ((with_reducible refine gate_dst (N:=1) rfl ?_);refine bxA 1 #[.int .i64 a0_0,.int .i64 a0_1,.int .i64 a0_2,.int .i64 a0_3,.int .i64 a0_4,.int .i64 a0_5,.int .i64 a0_6,.int .i64 a0_7] 23 ?_;intro gb330 hg w94 hbox hb;have n0_:=Am (below_step bA hb);have n1_:=Am (hbox);have n2_:=Am (gwA hg bA);have n3_:=Am (gwA hg bA);clear HB;have HB:=n0_;have BK330:=n1_;have GW330:=n2_;have GE330:=n3_;clear n0_ n1_ n2_ n3_ hb hbox hg;have hcz95_0 : w94.cell? ⟨gb330,0,none⟩ = some (.int .i64 a0_0):=(blk_cell BK330.out 0).trans rfl;have hcz95_1 : w94.cell? ⟨gb330,1,none⟩ = some (.int .i64 a0_1):=(blk_cell BK330.out 1).trans rfl;have hcz95_2 : w94.cell? ⟨gb330,2,none⟩ = some (.int .i64 a0_2):=(blk_cell BK330.out 2).trans rfl;have hcz95_3 : w94.cell? ⟨gb330,3,none⟩ = some (.int .i64 a0_3):=(blk_cell BK330.out 3).trans rfl;have hcz95_4 : w94.cell? ⟨gb330,4,none⟩ = some (.int .i64 a0_4):=(blk_cell BK330.out 4).trans rfl;have hcz95_5 : w94.cell? ⟨gb330,5,none⟩ = some (.int .i64 a0_5):=(blk_cell BK330.out 5).trans rfl;have hcz95_6 : w94.cell? ⟨gb330,6,none⟩ = some (.int .i64 a0_6):=(blk_cell BK330.out 6).trans rfl;have hcz95_7 : w94.cell? ⟨gb330,7,none⟩ = some (.int .i64 a0_7):=(blk_cell BK330.out 7).trans rfl;have hfz95_0:=blk_frozen BK330.out 0;have hfz95_1:=blk_frozen BK330.out 1;have hfz95_2:=blk_frozen BK330.out 2;have hfz95_3:=blk_frozen BK330.out 3;have hfz95_4:=blk_frozen BK330.out 4;have hfz95_5:=blk_frozen BK330.out 5;have hfz95_6:=blk_frozen BK330.out 6;have hfz95_7:=blk_frozen BK330.out 7) | ((with_reducible refine gate_callee (f:=27) rfl ?_);refine goesL_ (some 10) rfl rfl Tryd.func27 (by kernel_rfl) rfl #[.agg #[.int .i64 a0_0,.int .i64 a0_1,.int .i64 a0_2,.int .i64 a0_3,.int .i64 a0_4,.int .i64 a0_5,.int .i64 a0_6,.int .i64 a0_7]] rfl aA ?_;(with_reducible refine (backfillref11_ranges.calls k a0_0 a0_1 a0_2 a0_3 a0_4 a0_5 a0_6 a0_7 false _ A2.out).mono ?_);rintro e w96 ⟨rfl,hb⟩;refine ⟨_,rfl,?_⟩;have n0_:=Am (blk_below (g:=gb330) kA hb);have n1_:=Am (below_step bA hb);clear BK330 HB;have BK330:=n0_;have HB:=n1_;clear n0_ n1_;(try clear hb)))
  go_ret
  exact ⟨by first | rfl | (simp [errW_none,errW_some] <;> rfl) | (simp [*,errW_none,errW_some] <;> rfl),bA⟩

end Go.Proofs.YtbhijfbjdbjpbaaDoor.GSH
namespace Go.Proofs.YtbhijfbjdbjpbaaDoor.Q
open Go.RowKit Go.Proofs.YtbhijfbjdbjpbaaDoor.GSH Go.Proofs.YtbhijfbjdbjpbaaDoorW.PrintWords Go.Proofs.YtbhijfbjdbjpbaaDoorW.PrintLast Go.Proofs.YtbhijfbjdbjpbaaDoorW.PrintMore
theorem r_in (x lo hi : Int) : backfillref11_within.f x lo hi = some (within x lo hi):=by
  unfold backfillref11_within.f within
  by_cases c : x ≥ lo
  · rw [if_pos c];congr 1;by_cases d : x ≤ hi <;> simp [c,d]
  · rw [if_neg c];congr 1;simp;omega
theorem r_ranges (k : Nat) (hk : 3 ≤ k) (N Q L A F S P H : Int) : backfillref11_ranges.f k N Q L A F S P H = some (inR N Q L A F S P H):=by
  obtain ⟨k,rfl⟩ : ∃ m,k = m + 2:=⟨k - 2,by omega⟩
  unfold backfillref11_ranges.f inR
  simp only [backfillref11_ranges.j0,r_in,Option.bind_some]
  generalize within N 1 256 = b0
  generalize within Q 1 128 = b1
  generalize within L 1 1048576 = b2
  generalize within A 1 1048576 = b3
  generalize within F 0 1048576 = b4
  generalize within S 0 1048576 = b5
  generalize within P 1 1048576 = b6
  generalize within H 1 1073741824 = b7
  cases b0 <;> cases b1 <;> cases b2 <;> cases b3 <;> cases b4 <;> cases b5 <;> cases b6 <;> cases b7 <;> rfl
section
variable {N Q L A F S P H : Int} (B : Bds N Q L A F S P H)
include B
theorem r_C : backfillref11_C.f N Q L A F S P H = some (N * P):=by
  unfold backfillref11_C.f
  rw [wrap64_in (by have:=B.c0;omega) (by have:=B.c1;omega)]
theorem r_K : backfillref11_K.f N Q L A F S P H = some (keepV P H):=by
  obtain ⟨u0,u1⟩:=up_bd B.e0
  have e0:=B.e0;have e1:=B.e1;have p0:=B.p0;have p1:=B.p1;have h0:=B.h0;have h1:=B.h1
  unfold backfillref11_K.f backfillref10_Exponent.f
  rw [w64_in (x:=H) (by omega) (by omega),if_neg (by omega),w64_in (x:=P) (by omega) (by omega),w64_in (x:=P * 4294967296) (by omega) (by omega),tdiv_eq (by omega),show P * 4294967296 / H = eV P H from rfl,w64_in (x:=eV P H) (by omega) (by omega)]
  simp only [Option.bind_some]
  unfold backfillref11_up.f
  rw [wrap64_in (x:=eV P H) (by omega) (by omega),if_neg (by omega),wrap64_in (x:=8589934592 + eV P H) (by omega) (by omega),wrap64_in (x:=8589934592 + eV P H - 1) (by omega) (by omega),tdiv_eq (by omega),wrap64_in (x:=(8589934592 + eV P H - 1) / eV P H) (by omega) (by omega)]
  simp only [Option.bind_some]
  unfold keepV
  split <;> rfl
theorem r_M : backfillref11_M.f N Q L A F S P H = some (mostV N P H):=by
  unfold backfillref11_M.f
  rw [r_C B,r_K B]
  simp only [Option.bind_some]
  have m0:=B.m0;have m1:=B.m1;have k0:=B.k0
  rw [show N * P * keepV P H = mostV N P H from rfl,wrap64_in (by omega) (by omega)]
theorem r_lead : backfillref11_lead.f N Q L A F S P H = some (leadV N A F S):=by
  have a:=B.ld0;have b:=B.ld1;have c:=B.fs0;have d:=B.a0;have e:=B.sn0;have f:=B.sn1;have g:=B.fs1
  unfold backfillref11_lead.f
  rw [if_neg (by omega),wrap64_in (x:=S * N) (by omega) (by omega),show F + S * N = fsV N F S from rfl,wrap64_in (x:=fsV N F S) (by omega) (by omega),tdiv_eq c,show fsV N F S / A = leadV N A F S from rfl,wrap64_in (by omega) (by omega)]
theorem r_bound : backfillref11_bound.f N Q L A F S P H = some (boundV N Q L A F S):=by
  have a:=B.ld0;have b:=B.ld1;have c:=B.ql0;have d:=B.ql1
  unfold backfillref11_bound.f boundV
  rw [r_lead B]
  simp only [Option.bind_some]
  rw [wrap64_in (x:=leadV N A F S + 1) (by omega) (by omega),wrap64_in (x:=Q * L) (by omega) (by omega),wrap64_in (by omega) (by omega)]
theorem r_G (hm : mostV N P H ≤ 2147483648) : backfillref11_G.f N Q L A F S P H = some (gV N P H):=by
  obtain ⟨g0,g1,x0,x1,fx0,fx1,n0,n1⟩:=num_of B hm
  have m0:=B.m0;have k0:=B.k0
  unfold backfillref11_G.f
  rw [r_K B,r_M B]
  simp only [Option.bind_some]
  unfold backfillref11_up.f
  have hd : 0 ≤ (mostV N P H * 81 + 2147483648 - 1) / 2147483648:=Int.ediv_nonneg (by omega) (by omega)
  rw [if_neg (by decide),wrap64_in (x:=mostV N P H * 81) (by omega) (by omega),wrap64_in (x:=mostV N P H * 81 + 2147483648) (by omega) (by omega),wrap64_in (x:=mostV N P H * 81 + 2147483648 - 1) (by omega) (by omega),tdiv_eq (by omega),wrap64_in (x:=(mostV N P H * 81 + 2147483648 - 1) / 2147483648) (by omega) (by omega)]
  simp only [Option.bind_some]
  rw [wrap64_in (x:=1 + (mostV N P H * 81 + 2147483648 - 1) / 2147483648) (by omega) (by omega),show keepV P H * (1 + (mostV N P H * 81 + 2147483648 - 1) / 2147483648) = gV N P H from rfl,wrap64_in (by omega) (by omega)]
theorem r_bounds (hm : mostV N P H ≤ 2147483648) : backfillref11_off.f N Q L A F S P H = some (bndV N F P H):=by
  obtain ⟨g0,g1,x0,x1,fx0,fx1,n0,n1⟩:=num_of B hm
  have c0:=B.c0;have c1:=B.c1;have f0:=B.f0;have f1:=B.f1;have m0:=B.m0;have k0:=B.k0
  unfold backfillref11_off.f bndV backfillref01_Of.f
  by_cases c : F = 0
  · rw [if_pos c,if_pos c];rfl
  · rw [if_neg c,if_neg c,r_C B,r_G B hm]
    simp only [Option.bind_some]
    rw [wrap64_in (x:=2 * (N * P)) (by omega) (by omega),w64_in (x:=N * P) (by omega) (by omega),w64_in (x:=gV N P H) (by omega) (by omega),w64_in (x:=2 * (N * P)) (by omega) (by omega),w64_in (x:=F) (by omega) (by omega)]
    rw [rmul (a:=N * P) ⟨by omega,by omega⟩ ⟨by omega,by omega⟩,rmul (a:=258048) ⟨by omega,by omega⟩ ⟨by omega,by omega⟩]
    simp only [Option.bind_some]
    rw [radd ⟨by omega,by omega⟩ (umod' _) ⟨by omega,by omega⟩ ⟨by omega,by omega⟩]
    simp only [Option.bind_some]
    have e0 : addV (V (258048 * gV N P H / 18446744073709551616) (258048 * gV N P H % 18446744073709551616)) (V 0 (2 * (N * P))) = (xV N P H / 18446744073709551616,xV N P H % 18446744073709551616,true):=by
      unfold addV
      have : V (258048 * gV N P H / 18446744073709551616) (258048 * gV N P H % 18446744073709551616) + V 0 (2 * (N * P)) = xV N P H:=by unfold V xV;omega
      rw [this,if_pos (by omega)]
    rw [e0]
    dsimp only
    rw [rtimes ⟨by omega,by omega⟩ (umod' _) ⟨by omega,by omega⟩]
    have ht:=times_fits (q:=xV N P H) (y:=F) x0 f0 (by rw [Int.mul_comm];omega)
    rw [ht]
    simp only [Option.bind_some]
    rw [Int.mul_comm (xV N P H) F]
    rw [radd ⟨by omega,by omega⟩ (umod' _) ⟨by omega,by omega⟩ (umod' _)]
    simp only [Option.bind_some]
    unfold addV
    have e1 : V (F * xV N P H / 18446744073709551616) (F * xV N P H % 18446744073709551616) + V (N * P * 4294967296 / 18446744073709551616) (N * P * 4294967296 % 18446744073709551616) = numV N F P H:=by
      unfold V numV denV
      omega
    rw [e1,if_pos (by omega)]
    rfl
end
theorem r_check (k : Nat) (hk : 3 ≤ k) (N Q L A F S P H : Int) : backfillref11_Check.f k N Q L A F S P H = some (checkV N Q L A F S P H):=by
  unfold backfillref11_Check.f checkV
  rw [r_ranges k hk]
  simp only [Option.bind_some]
  by_cases c : inR N Q L A F S P H = true
  · have B:=bds (inR_cfg c)
    have fs0:=B.fs0;have fs1:=B.fs1;have a0:=B.a0;have a1:=B.a1;have s0:=B.sn0;have s1:=B.sn1;have f0:=B.f0;have f1:=B.f1;have ab0:=B.ab0;have ab1:=B.ab1
    rw [if_pos c,if_pos c,r_M B]
    simp only [Option.bind_some]
    by_cases d : mostV N P H > 2147483648
    · rw [if_pos d,if_pos d]
    · rw [if_neg d,if_neg d]
      have e1 : A * 1099511627776 + F + S * N = A * 1099511627776 + fsV N F S:=by unfold fsV;omega
      rw [wrap64_in (x:=A * 1099511627776) (by omega) (by omega),wrap64_in (x:=A * 1099511627776 + F) (by omega) (by omega),wrap64_in (x:=S * N) (by omega) (by omega),wrap64_in (x:=A * 1099511627776 + F + S * N) (by omega) (by omega),e1]
      by_cases e : A * 1099511627776 + fsV N F S ≥ 4611686018427387904
      · rw [if_pos e,if_pos e]
      · rw [if_neg e,if_neg e,r_bounds B (by omega),r_bound B]
        simp only [Option.bind_some]
        obtain ⟨u0,u1,u2,u3⟩:=bnd_U B (show mostV N P H ≤ 2147483648 by omega)
        have e2 : A * boundV N Q L A F S + F + S * N = A * boundV N Q L A F S + fsV N F S:=by unfold fsV;omega
        rw [wrap64_in (x:=A * boundV N Q L A F S) (by omega) (by omega),wrap64_in (x:=A * boundV N Q L A F S + F) (by omega) (by omega),wrap64_in (x:=A * boundV N Q L A F S + F + S * N) (by omega) (by omega),e2,w64_in (x:=A * boundV N Q L A F S + fsV N F S) (by omega) (by omega)]
        rw [rtimes u0 u1 ⟨by omega,by omega⟩,rtimes u2 u3 ⟨by omega,by omega⟩]
        simp only [Option.bind_some]
        rw [rcmp k (by omega) times_U times_U]
        simp only [Option.bind_some]
        unfold offV
        split <;> rfl
  · rw [if_neg c,if_neg c]
end Go.Proofs.YtbhijfbjdbjpbaaDoor.Q
namespace Go.Proofs.YtbhijfbjdbjpbaaDoor.GSH
open Go.RowKit Go.Proofs.YtbhijfbjdbjpbaaDoorW.PrintWords Go.Proofs.YtbhijfbjdbjpbaaDoorW.PrintLast Go.Proofs.YtbhijfbjdbjpbaaDoorW.PrintMore
attribute [local go_sem] max2_int min2_int max_two min_two max_three min_three max_four min_four   -- for this text's walks alone
set_option linter.unusedVariables false
set_option linter.unusedSimpArgs false
def backfillref11_Floor.f (k : Nat) (a0_0 : Int) (a0_1 : Int) (a0_2 : Int) (a0_3 : Int) (a0_4 : Int) (a0_5 : Int) (a0_6 : Int) (a0_7 : Int) : Option (Int):=(backfillref11_Check.f k a0_0 a0_1 a0_2 a0_3 a0_4 a0_5 a0_6 a0_7).bind fun t350 => (if t350 = 0 then ((backfillref11_C.f a0_0 a0_1 a0_2 a0_3 a0_4 a0_5 a0_6 a0_7).bind fun t351 => (some (IntKind.u64.wrap ((IntKind.u64.wrap (t351)) * 4294967296)))) else (some 0))
theorem backfillref11_Floor.mono : ∀ a0 a1 a2 a3 a4 a5 a6 a7 k,LeO (backfillref11_Floor.f k a0 a1 a2 a3 a4 a5 a6 a7) (backfillref11_Floor.f (k + 1) a0 a1 a2 a3 a4 a5 a6 a7):=by
 intro a0 a1 a2 a3 a4 a5 a6 a7 k
 unfold backfillref11_Floor.f
 repeat' first
   | (with_reducible exact backfillref11_Check.mono _ _ _ _ _ _ _ _ _)
   | (with_reducible exact LeO.refl _)
   | (with_reducible exact LeO.none _)
   | (with_reducible refine LeO.ite ?_ ?_)
   | (with_reducible refine LeO.bind ?_ (fun _ => ?_))
   | exact backfillref11_Check.mono _ _ _ _ _ _ _ _ _
   | exact LeO.none _
   | refine LeO.ite ?_ ?_
   | refine LeO.bind ?_ (fun _ => ?_)
set_option maxHeartbeats 8000000 in
set_option maxRecDepth 100000 in
theorem backfillref11_Floor.calls (k : Nat) (a0_0 : Int) (a0_1 : Int) (a0_2 : Int) (a0_3 : Int) (a0_4 : Int) (a0_5 : Int) (a0_6 : Int) (a0_7 : Int) (r : Int) (w : World) (h : backfillref11_Floor.f k a0_0 a0_1 a0_2 a0_3 a0_4 a0_5 a0_6 a0_7 = some r) :
  Calls Tryd.prog 13 #[.agg #[.int .i64 a0_0,.int .i64 a0_1,.int .i64 a0_2,.int .i64 a0_3,.int .i64 a0_4,.int .i64 a0_5,.int .i64 a0_6,.int .i64 a0_7]] w fun e w' => e = .returned (.int .u64 r) ∧ Below w.heap.size w w':=by
 have hu23:=Tryd.underlying23
 have HB:=Am (Below.refl w.heap.size w)
 have H : ((backfillref11_Check.f k a0_0 a0_1 a0_2 a0_3 a0_4 a0_5 a0_6 a0_7).bind fun t350 => (if t350 = 0 then ((backfillref11_C.f a0_0 a0_1 a0_2 a0_3 a0_4 a0_5 a0_6 a0_7).bind fun t351 => (some (IntKind.u64.wrap ((IntKind.u64.wrap (t351)) * 4294967296)))) else (some 0))) = some r:=h
 clear h;replace H:=Option.bind_eq_some_iff.mp H;obtain ⟨t350,A20,H⟩:=H;replace H : (if t350 = 0 then ((backfillref11_C.f a0_0 a0_1 a0_2 a0_3 a0_4 a0_5 a0_6 a0_7).bind fun t351 => (some (IntKind.u64.wrap ((IntKind.u64.wrap (t351)) * 4294967296)))) else (some 0)) = some r:=H;have A2:=Aside0.mk A20;clear A20
 by_cases c3 : t350 = 0
 ·rw [if_pos c3] at H
  have c3b0 : (t350 == 0) = true:=beq_iff_eq.mpr c3
  have c3b1 : (t350 != 0) = false:=bne_eq_false_iff_eq.mpr c3
  clear c3;replace H:=Option.bind_eq_some_iff.mp H;obtain ⟨t351,A40,H⟩:=H;replace H : (some (IntKind.u64.wrap ((IntKind.u64.wrap (t351)) * 4294967296))) = some r:=H;have A4:=Aside0.mk A40;clear A40
  obtain rfl:=Option.some.inj H
  go_enter Tryd.func13,Tryd.ntmps13
  go_wp2_with (first | ((with_reducible refine gate_dst (N:=1) rfl ?_);refine bxA 1 #[.int .i64 a0_0,.int .i64 a0_1,.int .i64 a0_2,.int .i64 a0_3,.int .i64 a0_4,.int .i64 a0_5,.int .i64 a0_6,.int .i64 a0_7] 23 ?_;intro gb349 hg w5 hbox hb;have n0_:=Am (below_step bA hb);have n1_:=Am (hbox);have n2_:=Am (gwA hg bA);have n3_:=Am (gwA hg bA);clear HB;have HB:=n0_;have BK349:=n1_;have GW349:=n2_;have GE349:=n3_;clear n0_ n1_ n2_ n3_ hb hbox hg;have hcz6_0 : w5.cell? ⟨gb349,0,none⟩ = some (.int .i64 a0_0):=(blk_cell BK349.out 0).trans rfl;have hcz6_1 : w5.cell? ⟨gb349,1,none⟩ = some (.int .i64 a0_1):=(blk_cell BK349.out 1).trans rfl;have hcz6_2 : w5.cell? ⟨gb349,2,none⟩ = some (.int .i64 a0_2):=(blk_cell BK349.out 2).trans rfl;have hcz6_3 : w5.cell? ⟨gb349,3,none⟩ = some (.int .i64 a0_3):=(blk_cell BK349.out 3).trans rfl;have hcz6_4 : w5.cell? ⟨gb349,4,none⟩ = some (.int .i64 a0_4):=(blk_cell BK349.out 4).trans rfl;have hcz6_5 : w5.cell? ⟨gb349,5,none⟩ = some (.int .i64 a0_5):=(blk_cell BK349.out 5).trans rfl;have hcz6_6 : w5.cell? ⟨gb349,6,none⟩ = some (.int .i64 a0_6):=(blk_cell BK349.out 6).trans rfl;have hcz6_7 : w5.cell? ⟨gb349,7,none⟩ = some (.int .i64 a0_7):=(blk_cell BK349.out 7).trans rfl;have hfz6_0:=blk_frozen BK349.out 0;have hfz6_1:=blk_frozen BK349.out 1;have hfz6_2:=blk_frozen BK349.out 2;have hfz6_3:=blk_frozen BK349.out 3;have hfz6_4:=blk_frozen BK349.out 4;have hfz6_5:=blk_frozen BK349.out 5;have hfz6_6:=blk_frozen BK349.out 6;have hfz6_7:=blk_frozen BK349.out 7) | ((with_reducible refine gate_callee (f:=10) rfl ?_);refine goesL_ (some 4) rfl rfl Tryd.func10 (by kernel_rfl) rfl #[.agg #[.int .i64 a0_0,.int .i64 a0_1,.int .i64 a0_2,.int .i64 a0_3,.int .i64 a0_4,.int .i64 a0_5,.int .i64 a0_6,.int .i64 a0_7]] rfl aA ?_;(with_reducible refine (backfillref11_Check.calls k a0_0 a0_1 a0_2 a0_3 a0_4 a0_5 a0_6 a0_7 t350 _ A2.out).mono ?_);rintro e w7 ⟨rfl,hb⟩;refine ⟨_,rfl,?_⟩;have n0_:=Am (blk_below (g:=gb349) kA hb);have n1_:=Am (below_step bA hb);clear BK349 HB;have BK349:=n0_;have HB:=n1_;clear n0_ n1_;(try clear hb);have hcz8_0 : w7.cell? ⟨gb349,0,none⟩ = some (.int .i64 a0_0):=(blk_cell BK349.out 0).trans rfl;have hcz8_1 : w7.cell? ⟨gb349,1,none⟩ = some (.int .i64 a0_1):=(blk_cell BK349.out 1).trans rfl;have hcz8_2 : w7.cell? ⟨gb349,2,none⟩ = some (.int .i64 a0_2):=(blk_cell BK349.out 2).trans rfl;have hcz8_3 : w7.cell? ⟨gb349,3,none⟩ = some (.int .i64 a0_3):=(blk_cell BK349.out 3).trans rfl;have hcz8_4 : w7.cell? ⟨gb349,4,none⟩ = some (.int .i64 a0_4):=(blk_cell BK349.out 4).trans rfl;have hcz8_5 : w7.cell? ⟨gb349,5,none⟩ = some (.int .i64 a0_5):=(blk_cell BK349.out 5).trans rfl;have hcz8_6 : w7.cell? ⟨gb349,6,none⟩ = some (.int .i64 a0_6):=(blk_cell BK349.out 6).trans rfl;have hcz8_7 : w7.cell? ⟨gb349,7,none⟩ = some (.int .i64 a0_7):=(blk_cell BK349.out 7).trans rfl;have hfz8_0:=blk_frozen BK349.out 0;have hfz8_1:=blk_frozen BK349.out 1;have hfz8_2:=blk_frozen BK349.out 2;have hfz8_3:=blk_frozen BK349.out 3;have hfz8_4:=blk_frozen BK349.out 4;have hfz8_5:=blk_frozen BK349.out 5;have hfz8_6:=blk_frozen BK349.out 6;have hfz8_7:=blk_frozen BK349.out 7) | ((with_reducible refine gate_callee (f:=32) rfl ?_);refine goesL_ (some 7) rfl rfl Tryd.func32 (by kernel_rfl) rfl #[.agg #[.int .i64 a0_0,.int .i64 a0_1,.int .i64 a0_2,.int .i64 a0_3,.int .i64 a0_4,.int .i64 a0_5,.int .i64 a0_6,.int .i64 a0_7]] rfl aA ?_;(with_reducible refine (backfillref11_C.calls a0_0 a0_1 a0_2 a0_3 a0_4 a0_5 a0_6 a0_7 t351 _ A4.out).mono ?_);rintro e w9 ⟨rfl,hb⟩;refine ⟨_,rfl,?_⟩;have n0_:=Am (blk_below (g:=gb349) kA hb);have n1_:=Am (below_step bA hb);clear BK349 HB;have BK349:=n0_;have HB:=n1_;clear n0_ n1_;(try clear hb)))
  go_ret
  exact ⟨by first | rfl | (simp [errW_none,errW_some] <;> rfl) | (simp [*,errW_none,errW_some] <;> rfl),bA⟩
 ·rw [if_neg c3] at H
  have c3b0 : (t350 == 0) = false:=beq_eq_false_iff_ne.mpr c3
  have c3b1 : (t350 != 0) = true:=bne_iff_ne.mpr c3
  obtain rfl:=Option.some.inj H
  go_enter Tryd.func13,Tryd.ntmps13
  go_wp2_with (first | ((with_reducible refine gate_dst (N:=1) rfl ?_);refine bxA 1 #[.int .i64 a0_0,.int .i64 a0_1,.int .i64 a0_2,.int .i64 a0_3,.int .i64 a0_4,.int .i64 a0_5,.int .i64 a0_6,.int .i64 a0_7] 23 ?_;intro gb349 hg w10 hbox hb;have n0_:=Am (below_step bA hb);have n1_:=Am (hbox);have n2_:=Am (gwA hg bA);have n3_:=Am (gwA hg bA);clear HB;have HB:=n0_;have BK349:=n1_;have GW349:=n2_;have GE349:=n3_;clear n0_ n1_ n2_ n3_ hb hbox hg;have hcz11_0 : w10.cell? ⟨gb349,0,none⟩ = some (.int .i64 a0_0):=(blk_cell BK349.out 0).trans rfl;have hcz11_1 : w10.cell? ⟨gb349,1,none⟩ = some (.int .i64 a0_1):=(blk_cell BK349.out 1).trans rfl;have hcz11_2 : w10.cell? ⟨gb349,2,none⟩ = some (.int .i64 a0_2):=(blk_cell BK349.out 2).trans rfl;have hcz11_3 : w10.cell? ⟨gb349,3,none⟩ = some (.int .i64 a0_3):=(blk_cell BK349.out 3).trans rfl;have hcz11_4 : w10.cell? ⟨gb349,4,none⟩ = some (.int .i64 a0_4):=(blk_cell BK349.out 4).trans rfl;have hcz11_5 : w10.cell? ⟨gb349,5,none⟩ = some (.int .i64 a0_5):=(blk_cell BK349.out 5).trans rfl;have hcz11_6 : w10.cell? ⟨gb349,6,none⟩ = some (.int .i64 a0_6):=(blk_cell BK349.out 6).trans rfl;have hcz11_7 : w10.cell? ⟨gb349,7,none⟩ = some (.int .i64 a0_7):=(blk_cell BK349.out 7).trans rfl;have hfz11_0:=blk_frozen BK349.out 0;have hfz11_1:=blk_frozen BK349.out 1;have hfz11_2:=blk_frozen BK349.out 2;have hfz11_3:=blk_frozen BK349.out 3;have hfz11_4:=blk_frozen BK349.out 4;have hfz11_5:=blk_frozen BK349.out 5;have hfz11_6:=blk_frozen BK349.out 6;have hfz11_7:=blk_frozen BK349.out 7) | ((with_reducible refine gate_callee (f:=10) rfl ?_);refine goesL_ (some 4) rfl rfl Tryd.func10 (by kernel_rfl) rfl #[.agg #[.int .i64 a0_0,.int .i64 a0_1,.int .i64 a0_2,.int .i64 a0_3,.int .i64 a0_4,.int .i64 a0_5,.int .i64 a0_6,.int .i64 a0_7]] rfl aA ?_;(with_reducible refine (backfillref11_Check.calls k a0_0 a0_1 a0_2 a0_3 a0_4 a0_5 a0_6 a0_7 t350 _ A2.out).mono ?_);rintro e w12 ⟨rfl,hb⟩;refine ⟨_,rfl,?_⟩;have n0_:=Am (blk_below (g:=gb349) kA hb);have n1_:=Am (below_step bA hb);clear BK349 HB;have BK349:=n0_;have HB:=n1_;clear n0_ n1_;(try clear hb)))
  go_ret
  exact ⟨by first | rfl | (simp [errW_none,errW_some] <;> rfl) | (simp [*,errW_none,errW_some] <;> rfl),bA⟩



end Go.Proofs.YtbhijfbjdbjpbaaDoor.GSH
namespace Go.Proofs.YtbhijfbjdbjpbaaDoor.T
open Go.RowKit Go.Proofs.YtbhijfbjdbjpbaaDoorW.PrintWords Go.Proofs.YtbhijfbjdbjpbaaDoorW.PrintLast Go.Proofs.YtbhijfbjdbjpbaaDoor.H Go.Proofs.YtbhijfbjdbjpbaaDoor.Q Go.ChangeShapes Go.WideShapes Go.Deep
set_option linter.unusedVariables false
set_option linter.unusedSimpArgs false
def Accs (W : World) (A : Option Addr) (n : Nat) (ls : List Acc) : Prop:=Rd Ec W A n ls ∧ AccOk ls ∧ AccU ls
section
variable {H : Type} {enc : TypeId × Value → H} {P : Program} {w : World} {base : Nat} {spare : Nat → Bool} {held : Bool}
theorem open_fieldsA {t e : TypeId} {fs : Array Field} {fuel : Nat} {cs : List Value} {x : DataW H × List MemPlace} (ht : P.underlying t = some (.slice e)) (he : P.underlying e = some (.struct fs))
    (hone : oneCellFields P fs = true) (hC : P.cellsOf e = fs.size) (h : DataW.trod enc P w base spare held fuel t cs = some x) :
    (cs = [.slice none 0 0] ∧ x = (.nil,[])) ∨
    ∃ (a : Addr) (len cap m : Nat) (D : Nat → DataW H) (Pl : Nat → List MemPlace),cs = [.slice (some a) len cap] ∧ len ≤ cap ∧ cap ≤ maxLen ∧ len ≤ m ∧
      x.1 = .slice ((List.range len).map D) ((List.range (m - len)).map fun j => D (len + j)) ∧
      ∀ i,i < m → ∃ n : Nat,∀ (j : Nat) (f : Field),fs[j]? = some f → ∃ (v : Value) (y : DataW H × List MemPlace),w.cell? (a.add (i * fs.size + j)) = some v ∧ DataW.trod enc P w base spare held n f.type [v] = some y:=by
  rcases open_slice ht h with h0 | ⟨a,len,cap,m,n,D,Pl,hcs,hb,hl,hm,hmm,hx,hi⟩
  · exact .inl h0
  · have hml : len ≤ m:=by rw [hmm];split <;> omega
    refine .inr ⟨a,len,cap,m,D,Pl,hcs,hl,hm,hml,by rw [hx],fun i him => ?_⟩
    obtain ⟨cs',hc,ht'⟩:=hi i him
    rw [hC] at hc
    obtain ⟨ys,n',hn',hy,hlen,hyl,hf⟩:=DataW.trod_struct he ht'
    obtain ⟨_,hcl,hat⟩:=World.cells?_some hc
    refine ⟨n',fun j f hj => ?_⟩
    obtain ⟨ho,hk⟩:=hone_of hone j f hj
    have hjl : j < fs.size:=(Array.getElem?_eq_some_iff.1 hj).1
    have hcell:=hat j hjl
    have hv : cs'[j]? = some (cs'[j]'(by omega)):=List.getElem?_eq_getElem (by omega)
    have h1:=hf j f hj
    rw [ho,hk] at h1
    have hone' : (cs'.drop j).take 1 = [cs'[j]'(by omega)]:=by
      rw [List.drop_eq_getElem_cons (by omega)]
      rfl
    rw [hone'] at h1
    have hys : ys[j]? = some (ys[j]'(by omega)):=List.getElem?_eq_getElem (by omega)
    refine ⟨_,_,?_,h1.trans hys⟩
    rw [← Go.Deep.add_add,hcell,hv]
end
theorem open_accs {H : Type} {enc : TypeId × Value → H} {W : World} {base : Nat} {spare : Nat → Bool} {held : Bool} {a : Option Addr} {len cap : Nat} {d : DataW H} {ps : List MemPlace} {ts : List TypeId} {ds : List (DataW H)} {j : Nat}
    (hsz : (DataW.weightsEach Tryd.prog ts ds).all (· ≤ reachBytes) = true) (ht : ts[j]? = some 24) (hd : ds[j]? = some d) (h : DataW.Trod enc Tryd.prog W base spare held 24 (.slice a len cap) d ps) :
    ∃ ls,Accs W a len ls ∧ len ≤ cap ∧ len * 48 ≤ 140737488351232:=by
  obtain ⟨fuel,hf⟩:=h
  have hf1 : DataW.trod enc Tryd.prog W base spare held fuel 24 [.slice a len cap] = some (d,ps):=by simpa [Value.cells] using hf
  rcases open_fieldsA Tryd.underlying24 Tryd.underlying37 (by kernel_rfl) (by kernel_rfl) hf1 with ⟨hcs,_⟩ | ⟨x,l,c,m,D,Pl,hcs,hl,hm,hml,hx,hi⟩
  · simp at hcs
    obtain ⟨rfl,rfl,rfl⟩:=hcs
    exact ⟨[],⟨Rd.nil _ _ _,(fun a ha => by cases ha),fun a ha => by cases ha⟩,Nat.le_refl _,by omega⟩
  · simp at hcs
    obtain ⟨rfl,rfl,rfl⟩:=hcs
    have hx : d = .slice ((List.range len).map D) ((List.range (m - len)).map fun j => D (len + j)):=hx
    have hv : ∀ i,∃ q : Acc,i < len → ((q.nm.size ≤ maxLen ∧ (Lit.int .i64 q.par).wf = true) ∧ U q.us) ∧ ∀ k v,(Ec.enc q)[k]? = some v → W.cell? (x.add (i * 5 + k)) = some v:=fun i => by
      by_cases him : i < len
      · obtain ⟨n,hf⟩:=hi i (by omega)
        obtain ⟨v0,y0,c0,t0⟩:=hf 0 _ rfl
        obtain ⟨v1,y1,c1,t1⟩:=hf 1 _ rfl
        obtain ⟨v2,y2,c2,t2⟩:=hf 2 _ rfl
        obtain ⟨v3,y3,c3,t3⟩:=hf 3 _ rfl
        obtain ⟨v4,y4,c4,t4⟩:=hf 4 _ rfl
        obtain ⟨b0,e0,_,s0⟩:=DataW.trod_string Tryd.underlying9 t0
        obtain ⟨b1,e1,_,w1⟩:=DataW.trod_int Tryd.underlying3 t1
        obtain ⟨b2,e2,_,_⟩:=DataW.trod_int Tryd.underlying3 t2
        obtain ⟨b3,e3,_⟩:=DataW.trod_bool Tryd.underlying4 t3
        obtain ⟨b4,e4,_,w4⟩:=DataW.trod_int Tryd.underlying25 t4
        simp at e0 e1 e2 e3 e4
        subst e0 e1 e2 e3 e4
        refine ⟨⟨b0,b1,b2,b3,b4⟩,fun _ => ⟨⟨⟨s0,w1⟩,wf_u w4⟩,fun k v hk => ?_⟩⟩
        have hk5 : k < 5:=by have:=(List.getElem?_eq_some_iff.1 hk).1;simpa [Ec] using this
        have : k = 0 ∨ k = 1 ∨ k = 2 ∨ k = 3 ∨ k = 4:=by omega
        rcases this with rfl | rfl | rfl | rfl | rfl <;> (simp [Ec] at hk;subst hk;assumption)
      · exact ⟨⟨ByteArray.empty,0,0,false,0⟩,fun h => absurd h him⟩
    let f : Nat → Acc:=fun i => Classical.choose (hv i)
    have hf':=fun i => Classical.choose_spec (hv i)
    refine ⟨(List.range len).map f,⟨⟨by simp,by simp only [maxLen] at hm;omega,fun _ => ⟨x,rfl,fun i v hiv => ?_⟩⟩,fun q hq => ?_,fun q hq => ?_⟩,hl,?_⟩
    · have hi5 : i < len * 5:=by
        have:=(List.getElem?_eq_some_iff.1 hiv).1
        rw [flat_len] at this
        simpa [Ec] using this
      obtain ⟨q,hq⟩ : ∃ q,q = i / 5:=⟨_,rfl⟩
      obtain ⟨r,hr⟩ : ∃ r,r = i % 5:=⟨_,rfl⟩
      have ei : i = q * 5 + r:=by omega
      have hq1 : q < len:=by omega
      have hat : ((List.range len).map f)[q]? = some (f q):=by simp [hq1]
      have e:=flat_at Ec _ q r (f q) hat (by show r < 5;omega)
      rw [ei] at hiv
      have h2 : (Ec.enc (f q))[r]? = some v:=e.symm.trans hiv
      rw [ei]
      exact (hf' q hq1).2 r v h2
    · obtain ⟨i,hi1,rfl⟩:=List.mem_map.1 hq
      exact (hf' i (List.mem_range.1 hi1)).1.1
    · obtain ⟨i,hi1,rfl⟩:=List.mem_map.1 hq
      exact (hf' i (List.mem_range.1 hi1)).1.2
    · subst hx
      have z:=sized_slice hsz ht hd Tryd.underlying24
      rw [show Tryd.prog.bytesOf 37 = 48 by kernel_rfl] at z
      simp only [List.length_map,List.length_range] at z
      exact Nat.le_trans (Nat.mul_le_mul_right _ (by omega)) z
end Go.Proofs.YtbhijfbjdbjpbaaDoor.T
namespace Go.Proofs.YtbhijfbjdbjpbaaDoor.T
open Go.RowKit Go.Proofs.YtbhijfbjdbjpbaaDoorW.PrintWords Go.Proofs.YtbhijfbjdbjpbaaDoorW.PrintLast Go.Proofs.YtbhijfbjdbjpbaaDoor.H Go.Maps Go.Proofs.YtbhijfbjdbjpbaaDoor.Q Go.Proofs.YtbhijfbjdbjpbaaDoor.GSH
set_option linter.unusedVariables false
set_option linter.unusedSimpArgs false
/-- What all at a depth have together,of those below j. -/
def lev (ls : List Acc) (x : Int → Int) (d : Int) : Nat → Int
  | 0 => 0
  | j + 1 => lev ls x d j + (if depV ls (j : Int) = d then x j else 0)
theorem lev_nonneg {ls : List Acc} {x : Int → Int} {d : Int} : ∀ {j : Nat},(∀ i : Nat,i < j → 0 ≤ x i) → 0 ≤ lev ls x d j
  | 0,_ => Int.le_refl _
  | j + 1,h => by
    have:=lev_nonneg (ls:=ls) (d:=d) (j:=j) (fun i hi => h i (by omega))
    have:=h j (by omega)
    rw [lev];split <;> omega
theorem lev_mono {ls : List Acc} {x y : Int → Int} {d : Int} : ∀ {j : Nat},(∀ i : Nat,i < j → depV ls i = d → x i ≤ y i) → lev ls x d j ≤ lev ls y d j
  | 0,_ => Int.le_refl _
  | j + 1,h => by
    have h1:=lev_mono (ls:=ls) (d:=d) (j:=j) (fun i hi => h i (by omega))
    rw [lev,lev]
    by_cases e : depV ls (j : Int) = d
    · rw [if_pos e,if_pos e];have:=h j (by omega) e;omega
    · rw [if_neg e,if_neg e];omega
theorem lev_add {ls : List Acc} {x y : Int → Int} {d : Int} : ∀ {j : Nat},lev ls (fun i => x i + y i) d j = lev ls x d j + lev ls y d j
  | 0 => rfl
  | j + 1 => by
    rw [lev,lev,lev,lev_add (j:=j)]
    split <;> omega
theorem lev_point {ls : List Acc} {q c d : Int} (hc : 0 ≤ c) : ∀ {j : Nat},lev ls (fun p => if q = p then c else 0) d j ≤ (if 0 ≤ q ∧ q < j ∧ depV ls q = d then c else 0)
  | 0 => by rw [lev];split <;> omega
  | j + 1 => by
    have ih:=lev_point (ls:=ls) (q:=q) (d:=d) hc (j:=j)
    rw [lev]
    by_cases e : q = (j : Int)
    · subst e
      rw [if_neg (by omega)] at ih
      by_cases e2 : depV ls (j : Int) = d
      · rw [if_pos e2,if_pos rfl,if_pos ⟨by omega,by omega,e2⟩];omega
      · rw [if_neg e2,if_neg (by intro h;exact e2 h.2.2)];omega
    · have e3 : (if depV ls (j : Int) = d then (if q = (j : Int) then c else 0) else 0) = 0:=by
        split
        · rfl
        · rfl
      rw [e3]
      by_cases h : 0 ≤ q ∧ q < j ∧ depV ls q = d
      · rw [if_pos h] at ih
        rw [if_pos ⟨h.1,by omega,h.2.2⟩];omega
      · rw [if_neg h] at ih
        rw [if_neg (by intro h2;exact h ⟨h2.1,by omega,h2.2.2⟩)];omega
def sumL (x : Int → Int) (ks : List Int) : Int:=(ks.map x).foldr (· + ·) 0
theorem sumL_cons (x : Int → Int) (k : Int) (r : List Int) : sumL x (k :: r) = x k + sumL x r:=rfl
theorem sumL_snoc (x : Int → Int) (k : Int) : ∀ r : List Int,sumL x (r ++ [k]) = sumL x r + x k
  | [] => by simp [sumL]
  | a :: r => by rw [List.cons_append,sumL_cons,sumL_cons,sumL_snoc x k r];omega
theorem sumL_nonneg {x : Int → Int} : ∀ {ks : List Int},(∀ k ∈ ks,0 ≤ x k) → 0 ≤ sumL x ks
  | [],_ => Int.le_refl _
  | k :: r,h => by
    rw [sumL_cons]
    have:=h k (List.mem_cons_self ..)
    have:=sumL_nonneg (x:=x) (ks:=r) (fun j hj => h j (List.mem_cons_of_mem _ hj))
    omega
theorem kids_step {ls : List Acc} {p : Int} {j : Nat} (h : j < ls.length) : kidsV ls p (j + 1) = if parV ls (j : Int) = p then kidsV ls p j ++ [(j : Int)] else kidsV ls p j:=by
  rw [kidsV,parV_lt h]
  by_cases e : parV ls (j : Int) = p
  · rw [if_pos ⟨e,h⟩,if_pos e]
  · rw [if_neg (fun q => e q.1),if_neg e]
/-- All children's numbers together are those of the next depth,at most. -/
theorem lev_kids {ls : List Acc} (t : Tree ls) {x : Int → Int} {d : Int} (hd : 0 ≤ d) : ∀ {j : Nat},j ≤ ls.length → (∀ i : Nat,i < j → 0 ≤ x i) → lev ls (fun p => sumL x (kidsV ls p j)) d ls.length ≤ lev ls x (d + 1) j
  | 0,_,_ => by
    have : ∀ m,lev ls (fun p => sumL x (kidsV ls p 0)) d m = 0:=by
      intro m
      induction m with
      | zero => rfl
      | succ m ih => rw [lev,ih];simp [kidsV,sumL]
    rw [this];exact Int.le_refl _
  | j + 1,hj,hx => by
    have ih:=lev_kids t (x:=x) hd (j:=j) (by omega) (fun i hi => hx i (by omega))
    have hxj:=hx j (by omega)
    have e : lev ls (fun p => sumL x (kidsV ls p (j + 1))) d ls.length ≤ lev ls (fun p => sumL x (kidsV ls p j) + (if parV ls (j : Int) = p then x j else 0)) d ls.length:=lev_mono (fun i _ _ => by
      rw [kids_step (by omega)]
      by_cases e : parV ls (j : Int) = (i : Int)
      · rw [if_pos e,if_pos e,sumL_snoc];exact Int.le_refl _
      · rw [if_neg e,if_neg e];omega)
    rw [lev_add] at e
    have hp:=lev_point (ls:=ls) (q:=parV ls (j : Int)) (d:=d) hxj (j:=ls.length)
    rw [lev]
    by_cases c : 0 ≤ parV ls (j : Int) ∧ parV ls (j : Int) < ls.length ∧ depV ls (parV ls (j : Int)) = d
    · rw [if_pos c] at hp
      have h0 : 0 < (j : Int):=by
        rcases Nat.eq_zero_or_pos j with h | h
        · subst h
          have:=t.par0
          have:=c.1
          simp at this
          omega
        · omega
      obtain ⟨_,_,h3⟩:=t.par h0 (by omega)
      rw [if_pos (by omega)]
      omega
    · rw [if_neg c] at hp
      split <;> omega
/-- All usages together. -/
def totV (ls : List Acc) : Nat → Int
  | 0 => 0
  | j + 1 => totV ls j + usV ls j
theorem lev_total {ls : List Acc} {x : Int → Int} : ∀ {j : Nat},(∀ i : Nat,i < j → 0 ≤ x i) → ∀ tot : Nat → Int,tot 0 = 0 → (∀ i,tot (i + 1) = tot i + x i) → lev ls x 0 j + lev ls x 1 j + lev ls x 2 j + lev ls x 3 j + lev ls x 4 j ≤ tot j
  | 0,_,tot,h0,_ => by simp only [lev];omega
  | j + 1,h,tot,h0,hs => by
    have ih:=lev_total (ls:=ls) (j:=j) (fun i hi => h i (by omega)) tot h0 hs
    have:=h j (by omega)
    rw [hs]
    simp only [lev]
    by_cases e0 : depV ls (j : Int) = 0
    · rw [if_pos e0,if_neg (by omega),if_neg (by omega),if_neg (by omega),if_neg (by omega)];omega
    · rw [if_neg e0]
      by_cases e1 : depV ls (j : Int) = 1
      · rw [if_pos e1,if_neg (by omega),if_neg (by omega),if_neg (by omega)];omega
      · rw [if_neg e1]
        by_cases e2 : depV ls (j : Int) = 2
        · rw [if_pos e2,if_neg (by omega),if_neg (by omega)];omega
        · rw [if_neg e2]
          by_cases e3 : depV ls (j : Int) = 3
          · rw [if_pos e3,if_neg (by omega)];omega
          · rw [if_neg e3]
            split <;> omega
theorem addU_le {a b : Int} (hb : 0 ≤ b) (ha : a ≤ 18446744073709551615) : addU a b ≤ a + b ∧ a ≤ addU a b ∧ (b ≤ 18446744073709551615 → 0 ≤ a → b ≤ addU a b):=by
  unfold addU
  split <;> exact ⟨by omega,by omega,fun _ _ => by omega⟩
theorem fold_bd {h : Int → Int} (hU : ∀ k,U (h k)) : ∀ (ks : List Int) (x : Int),U x → x ≤ ks.foldl (fun x i => addU x (h i)) x ∧ ks.foldl (fun x i => addU x (h i)) x ≤ x + sumL h ks ∧ ∀ k ∈ ks,h k ≤ ks.foldl (fun x i => addU x (h i)) x
  | [],x,hx => ⟨Int.le_refl _,by simp [sumL],fun _ h => by cases h⟩
  | k :: r,x,hx => by
    obtain ⟨h0,h1⟩:=hU k
    obtain ⟨x0,x1⟩:=hx
    obtain ⟨a1,a2,a3⟩:=addU_le (a:=x) h0 (by omega)
    obtain ⟨b1,b2,b3⟩:=fold_bd hU r _ (addU_in (a:=x) (b:=h k) ⟨x0,x1⟩ ⟨h0,h1⟩)
    rw [List.foldl_cons,sumL_cons]
    refine ⟨by omega,by omega,fun j hj => ?_⟩
    rcases List.mem_cons.1 hj with e | e
    · subst e;have:=a3 (by omega) x0;omega
    · exact b3 j e
theorem sumV_step {ls : List Acc} (t : Tree ls) (p : Int) (h0 : 0 ≤ p) (h1 : p < ls.length) : sumV ls p = upF (sumV ls) ls p (kidsV ls p ls.length):=by
  have:=sumF_more t 5 p h0 h1 (by have:=t.dep p.toNat (by omega);rw [Int.toNat_of_nonneg h0] at this;omega)
  unfold sumV
  rw [← this,sumF]
theorem sumV_in {ls : List Acc} (h : AccU ls) (p : Int) : U (sumV ls p):=sumF_in h 5 p
/-- What the root has is no more than all together. -/
theorem sum_total {ls : List Acc} (t : Tree ls) (hu : AccU ls) : sumV ls 0 ≤ totV ls ls.length:=by
  have hA : ∀ d : Int,0 ≤ d → lev ls (sumV ls) d ls.length ≤ lev ls (usV ls) d ls.length + lev ls (sumV ls) (d + 1) ls.length:=fun d hd => by
    have h1 : lev ls (sumV ls) d ls.length ≤ lev ls (fun p => usV ls p + sumL (sumV ls) (kidsV ls p ls.length)) d ls.length:=lev_mono (fun i hi _ => by
      rw [sumV_step t (i : Int) (by omega) (by omega)]
      exact (fold_bd (sumV_in hu) _ _ (usV_in hu _)).2.1)
    rw [lev_add] at h1
    have h2:=lev_kids t (x:=sumV ls) hd (Nat.le_refl ls.length) (fun i _ => (sumV_in hu _).1)
    omega
  have h5 : ∀ m,m ≤ ls.length → lev ls (sumV ls) 5 m = 0:=by
    intro m
    induction m with
    | zero => exact fun _ => rfl
    | succ m ih =>
      intro hm
      have:=t.dep m (by omega)
      rw [lev,ih (by omega),if_neg (by omega)];rfl
  have h0 : ∀ m,0 < m → m ≤ ls.length → sumV ls 0 ≤ lev ls (sumV ls) 0 m:=by
    intro m
    induction m with
    | zero => intro h;omega
    | succ m ih =>
      intro _ hm
      rw [lev]
      rcases Nat.eq_zero_or_pos m with e | e
      · subst e
        rw [show (((0 : Nat) : Int)) = 0 from rfl,if_pos (dep_root ls)]
        simp [lev]
      · have h3:=ih e (by omega)
        have h4:=(sumV_in hu (m : Int)).1
        split <;> omega
  have a0:=hA 0 (by omega)
  have a1:=hA 1 (by omega)
  have a2:=hA 2 (by omega)
  have a3:=hA 3 (by omega)
  have a4:=hA 4 (by omega)
  have hT:=lev_total (ls:=ls) (x:=usV ls) (j:=ls.length) (fun i _ => (usV_in hu _).1) (totV ls) rfl (fun i => rfl)
  have hz:=h0 ls.length t.pos (Nat.le_refl _)
  have h5':=h5 ls.length (Nat.le_refl _)
  simp only [show (0 : Int) + 1 = 1 from rfl,show (1 : Int) + 1 = 2 from rfl,show (2 : Int) + 1 = 3 from rfl,show (3 : Int) + 1 = 4 from rfl,show (4 : Int) + 1 = 5 from rfl] at a0 a1 a2 a3 a4
  omega
/-- An account has no more than its parent. -/
theorem sum_par {ls : List Acc} (t : Tree ls) (hu : AccU ls) {i : Int} (h0 : 0 < i) (h1 : i < ls.length) : sumV ls i ≤ sumV ls (parV ls i):=by
  obtain ⟨a,b,_⟩:=t.par h0 h1
  rw [sumV_step t (parV ls i) a b]
  exact (fold_bd (sumV_in hu) _ _ (usV_in hu _)).2.2 i ((kids_mem (Nat.le_refl _)).2 ⟨by omega,h1,rfl⟩)
theorem sis_sum {ls : List Acc} (t : Tree ls) {p : Int} : ∀ {j : Nat},j ≤ ls.length → sisV ls (kidsV ls p j) = sumL (shV ls) (kidsV ls p j) ∧ 0 ≤ sumL (shV ls) (kidsV ls p j) ∧ sumL (shV ls) (kidsV ls p j) ≤ 4096 * ((kidsV ls p j).length : Int)
  | 0,_ => by simp [kidsV,sisV,sumL]
  | j + 1,h => by
    obtain ⟨a,b,c⟩:=sis_sum t (p:=p) (j:=j) (by omega)
    have hs:=t.sh j (by omega)
    have hl:=kidsV_len ls p j
    have h64:=t.le
    rw [kids_step (by omega)]
    split
    · rw [sumL_snoc]
      refine ⟨?_,by omega,by rw [List.length_append];simp;omega⟩
      unfold sisV at a ⊢
      rw [List.foldl_append,a]
      simp only [List.foldl_cons,List.foldl_nil]
      rw [t.kidw j (by omega),w64_in (by omega) (by omega)]
    · exact ⟨a,b,c⟩
/-- The shares of an account's children together. -/
def totS (ls : List Acc) (p : Int) : Int:=sumL (shV ls) (kidsV ls p ls.length)
theorem sumL_ge {x : Int → Int} : ∀ {ks : List Int} {k : Int},(∀ k ∈ ks,0 ≤ x k) → k ∈ ks → x k ≤ sumL x ks
  | [],_,_,h => by cases h
  | a :: r,k,hx,h => by
    rw [sumL_cons]
    have h1:=hx a (List.mem_cons_self ..)
    have h2:=sumL_nonneg (x:=x) (ks:=r) (fun j hj => hx j (List.mem_cons_of_mem _ hj))
    rcases List.mem_cons.1 h with e | e
    · subst e;omega
    · have:=sumL_ge (x:=x) (fun j hj => hx j (List.mem_cons_of_mem _ hj)) e
      omega
theorem kid_pos {ls : List Acc} (t : Tree ls) {p k : Int} (h : k ∈ kidsV ls p ls.length) : 1 ≤ shV ls k:=by
  obtain ⟨a,b,_⟩:=(kids_mem (Nat.le_refl _)).1 h
  have:=t.sh k.toNat (by omega)
  rw [Int.toNat_of_nonneg a] at this
  exact this.1
theorem tot_ge {ls : List Acc} (t : Tree ls) {i : Int} (h0 : 0 < i) (h1 : i < ls.length) : 1 ≤ shV ls i ∧ shV ls i ≤ totS ls (parV ls i):=by
  have hm:=(kids_mem (ls:=ls) (p:=parV ls i) (k:=i) (Nat.le_refl _)).2 ⟨by omega,h1,rfl⟩
  exact ⟨kid_pos t hm,sumL_ge (fun k hk => by have:=kid_pos t hk;omega) hm⟩
/-- How many are at a depth. -/
def many (ls : List Acc) (d : Int) : Int:=lev ls (fun _ => 1) d ls.length
theorem kids_many {ls : List Acc} (t : Tree ls) {p : Int} (h0 : 0 ≤ p) : ∀ {j : Nat},j ≤ ls.length → ((kidsV ls p j).length : Int) ≤ lev ls (fun _ => 1) (depV ls p + 1) j
  | 0,_ => by simp [kidsV,lev]
  | j + 1,h => by
    have ih:=kids_many t h0 (j:=j) (by omega)
    rw [kids_step (by omega),lev]
    by_cases e : parV ls (j : Int) = p
    · rw [if_pos e]
      have hj : 0 < (j : Int):=by
        rcases Nat.eq_zero_or_pos j with q | q
        · subst q;have:=t.par0;simp at e;omega
        · omega
      obtain ⟨_,_,h3⟩:=t.par hj (by omega)
      rw [e] at h3
      rw [if_pos h3,List.length_append]
      simp;omega
    · rw [if_neg e]
      split <;> omega
theorem tot_many {ls : List Acc} (t : Tree ls) {p : Int} (h0 : 0 ≤ p) : totS ls p ≤ 4096 * many ls (depV ls p + 1):=by
  have h1:=(sis_sum t (p:=p) (Nat.le_refl ls.length)).2.2
  have h2:=kids_many t h0 (Nat.le_refl ls.length)
  unfold totS many
  omega
theorem many_sum {ls : List Acc} (t : Tree ls) : (∀ d,0 ≤ many ls d) ∧ many ls 1 + many ls 2 + many ls 3 + many ls 4 ≤ 63:=by
  have hT:=lev_total (ls:=ls) (x:=fun _ => 1) (j:=ls.length) (fun i _ => by decide) (fun j => (j : Int)) rfl (fun i => by omega)
  have h0 : ∀ m,0 < m → m ≤ ls.length → 1 ≤ lev ls (fun _ => 1) 0 m:=by
    intro m
    induction m with
    | zero => intro h;omega
    | succ m ih =>
      intro _ hm
      rw [lev]
      rcases Nat.eq_zero_or_pos m with e | e
      · subst e
        rw [show (((0 : Nat) : Int)) = 0 from rfl,if_pos (dep_root ls)];simp [lev]
      · have:=ih e (by omega)
        split <;> omega
  have:=h0 ls.length t.pos (Nat.le_refl _)
  have:=t.le
  refine ⟨fun d => lev_nonneg (fun i _ => by decide),?_⟩
  unfold many
  omega
end Go.Proofs.YtbhijfbjdbjpbaaDoor.T
namespace Go.Proofs.YtbhijfbjdbjpbaaDoor.T
open Go.RowKit Go.Proofs.YtbhijfbjdbjpbaaDoorW.PrintWords Go.Proofs.YtbhijfbjdbjpbaaDoorW.PrintLast Go.Proofs.YtbhijfbjdbjpbaaDoor.H Go.Maps Go.Proofs.YtbhijfbjdbjpbaaDoor.Q Go.Proofs.YtbhijfbjdbjpbaaDoor.GSH
set_option linter.unusedVariables false
set_option linter.unusedSimpArgs false
theorem sqn (x : Int) : 0 ≤ x * x:=by
  rcases Int.le_total 0 x with h | h
  · exact Int.mul_nonneg h h
  · have:=Int.mul_nonneg (show 0 ≤ -x by omega) (show 0 ≤ -x by omega)
    rwa [Int.neg_mul_neg] at this
theorem four_le {a b : Int} : 4 * (a * b) ≤ (a + b) * (a + b):=by
  have h:=sqn (a - b)
  have e : (a + b) * (a + b) = (a - b) * (a - b) + 4 * (a * b):=by grind
  omega
theorem four_bd {a b c d : Int} (ha : 0 ≤ a) (hb : 0 ≤ b) (hc : 0 ≤ c) (hd : 0 ≤ d) (h : a + b + c + d ≤ 63) : a * b * (c * d) ≤ 61504:=by
  have h1:=four_le (a:=a) (b:=b)
  have h2:=four_le (a:=c) (b:=d)
  have h3:=four_le (a:=a + b) (b:=c + d)
  have hx:=Int.mul_nonneg ha hb
  have hy:=Int.mul_nonneg hc hd
  have hs : 0 ≤ a + b:=by omega
  have ht : 0 ≤ c + d:=by omega
  have h4 : (a + b + (c + d)) * (a + b + (c + d)) ≤ 63 * 63:=Int.mul_le_mul (by omega) (by omega) (by omega) (by omega)
  generalize a * b = x at *
  generalize c * d = y at *
  generalize a + b = s at *
  generalize c + d = t at *
  have h5 : s * t ≤ 992:=by omega
  have h6 : 0 ≤ s * t:=Int.mul_nonneg hs ht
  have h7 : (4 * x) * (4 * y) ≤ (s * s) * (t * t):=Int.mul_le_mul h1 h2 (by omega) (sqn s)
  have h8 : (s * t) * (s * t) ≤ 992 * 992:=Int.mul_le_mul h5 h5 h6 (by omega)
  have e1 : (4 * x) * (4 * y) = 16 * (x * y):=by grind
  have e2 : (s * s) * (t * t) = (s * t) * (s * t):=by grind
  omega
/-- The greatest denominator at a depth. -/
def Bd (ls : List Acc) : Nat → Int
  | 0 => 1
  | d + 1 => Bd ls d * (4096 * many ls ((d : Int) + 1))
theorem Bd_nonneg {ls : List Acc} (t : Tree ls) : ∀ d,0 ≤ Bd ls d
  | 0 => by show (0 : Int) ≤ 1;decide
  | d + 1 => by
    have h1:=Bd_nonneg t d
    have h2:=(many_sum t).1 ((d : Int) + 1)
    exact Int.mul_nonneg h1 (by omega)
theorem Bd_lt {ls : List Acc} (t : Tree ls) {d : Nat} (h : d ≤ 4) : Bd ls d < 18446744073709551616:=by
  obtain ⟨hn,hs⟩:=many_sum t
  have n1:=hn 1
  have n2:=hn 2
  have n3:=hn 3
  have n4:=hn 4
  have e1 : Bd ls 1 = 4096 * many ls 1:=by show 1 * (4096 * many ls ((0 : Nat) + 1 : Int)) = _;rw [Int.one_mul];rfl
  have e2 : Bd ls 2 = 16777216 * (many ls 1 * many ls 2):=by
    show Bd ls 1 * (4096 * many ls ((1 : Nat) + 1 : Int)) = _
    rw [e1,show ((1 : Nat) + 1 : Int) = 2 from rfl];grind
  have e3 : Bd ls 3 = 68719476736 * (many ls 1 * many ls 2 * many ls 3):=by
    show Bd ls 2 * (4096 * many ls ((2 : Nat) + 1 : Int)) = _
    rw [e2,show ((2 : Nat) + 1 : Int) = 3 from rfl];grind
  have e4 : Bd ls 4 = 281474976710656 * (many ls 1 * many ls 2 * (many ls 3 * many ls 4)):=by
    show Bd ls 3 * (4096 * many ls ((3 : Nat) + 1 : Int)) = _
    rw [e3,show ((3 : Nat) + 1 : Int) = 4 from rfl];grind
  have b4:=four_bd n1 n2 n3 n4 hs
  have b2 : many ls 1 * many ls 2 ≤ 63 * 63:=Int.mul_le_mul (by omega) (by omega) n2 (by omega)
  have b3 : many ls 1 * many ls 2 * many ls 3 ≤ 63 * 63 * 63:=Int.mul_le_mul b2 (by omega) n3 (by omega)
  have : d = 0 ∨ d = 1 ∨ d = 2 ∨ d = 3 ∨ d = 4:=by omega
  rcases this with rfl | rfl | rfl | rfl | rfl
  · show (1 : Int) < _;decide
  · rw [e1];omega
  · rw [e2];omega
  · rw [e3];omega
  · rw [e4];omega
/-- Shares are fractions;those of sisters are together their parent's. -/
theorem part_ok {ls : List Acc} (t : Tree ls) : ∀ (d : Nat) (i : Int),0 ≤ i → i < ls.length → depV ls i = d →
    1 ≤ (partV ls i).1 ∧ (partV ls i).1 ≤ (partV ls i).2 ∧ (partV ls i).1 ≤ 4096 ^ d ∧ (partV ls i).2 ≤ Bd ls d ∧ (0 < i → (partV ls i).1 = (partV ls (parV ls i)).1 * shV ls i ∧ (partV ls i).2 = (partV ls (parV ls i)).2 * totS ls (parV ls i))
  | 0,i,h0,h1,hd => by
    have e:=dep_zero (ls:=ls) hd
    subst e
    have e2 : partV ls 0 = (1,1):=clm_root
    rw [e2]
    exact ⟨Int.le_refl _,Int.le_refl _,Int.le_refl _,Int.le_refl _,fun h => by omega⟩
  | d + 1,i,h0,h1,hd => by
    have hi : 0 < i:=by
      rcases Int.lt_or_le 0 i with h | h
      · exact h
      · have : i = 0:=by omega
        rw [this,dep_root] at hd;omega
    obtain ⟨a,b,c⟩:=t.par hi h1
    have hd4:=t.dep i.toNat (by omega)
    rw [Int.toNat_of_nonneg h0] at hd4
    obtain ⟨p1,p2,p3,p4,_⟩:=part_ok t d _ a b (by omega)
    obtain ⟨s1,s2⟩:=tot_ge t hi h1
    have hs:=t.sh i.toNat (by omega)
    have hw:=t.kidw i.toNat (by omega)
    rw [Int.toNat_of_nonneg h0] at hs hw
    have hS:=tot_many t a
    have hsis:=(sis_sum t (p:=parV ls i) (Nat.le_refl ls.length)).1
    have hstep : partV ls i = shG ls i (partV ls (parV ls i)):=clm_step t hi h1
    have hB:=Bd_lt t (d:=d + 1) (by omega)
    have hdp : depV ls (parV ls i) + 1 = (d : Int) + 1:=by omega
    rw [hdp] at hS
    have hBe : Bd ls (d + 1) = Bd ls d * (4096 * many ls ((d : Int) + 1)):=rfl
    have hb0:=Bd_nonneg t d
    obtain ⟨x,hx⟩ : ∃ x,x = (partV ls (parV ls i)).1:=⟨_,rfl⟩
    obtain ⟨y,hy⟩ : ∃ y,y = (partV ls (parV ls i)).2:=⟨_,rfl⟩
    rw [← hx] at p1 p2 p3
    rw [← hy] at p2 p4
    have h2 : y * totS ls (parV ls i) ≤ Bd ls (d + 1):=by rw [hBe];exact Int.mul_le_mul p4 hS (by omega) hb0
    have h3 : x * shV ls i ≤ y * totS ls (parV ls i):=Int.mul_le_mul p2 s2 (by omega) (by omega)
    have h4 : x * shV ls i ≤ 4096 ^ d * 4096:=Int.mul_le_mul p3 hs.2 (by omega) (by have : (0 : Int) < 4096 ^ d:=Int.pow_pos (by decide);omega)
    have h5 : 1 ≤ x * shV ls i:=by have:=Int.mul_le_mul p1 hs.1 (by decide) (by omega);omega
    have e : partV ls i = (x * shV ls i,y * totS ls (parV ls i)):=by
      rw [hstep]
      unfold shG
      rw [← hx,← hy,hw,hsis]
      rw [w64_in (x:=x * shV ls i) (by omega) (by omega),w64_in (x:=y * sumL (shV ls) (kidsV ls (parV ls i) ls.length)) (by unfold totS at h2 h3;omega) (by unfold totS at h2;omega)]
      rfl
    rw [e,← hx,← hy]
    exact ⟨h5,h3,by rw [Int.pow_succ];exact h4,h2,fun _ => ⟨rfl,rfl⟩⟩
theorem part_frac {ls : List Acc} (t : Tree ls) {i : Int} (h0 : 0 ≤ i) (h1 : i < ls.length) : 1 ≤ (partV ls i).1 ∧ (partV ls i).1 ≤ (partV ls i).2 ∧ U (partV ls i).1 ∧ U (partV ls i).2:=by
  have hd:=t.dep i.toNat (by omega)
  rw [Int.toNat_of_nonneg h0] at hd
  obtain ⟨a,b,_,d,_⟩:=part_ok t (depV ls i).toNat i h0 h1 (by omega)
  have:=Bd_lt t (d:=(depV ls i).toNat) (by omega)
  unfold U
  omega
theorem part_par {ls : List Acc} (t : Tree ls) {i : Int} (h0 : 0 < i) (h1 : i < ls.length) : (partV ls i).1 * (partV ls (parV ls i)).2 ≤ (partV ls (parV ls i)).1 * (partV ls i).2:=by
  have hd:=t.dep i.toNat (by omega)
  rw [Int.toNat_of_nonneg (by omega)] at hd
  obtain ⟨_,_,_,_,h⟩:=part_ok t (depV ls i).toNat i (by omega) h1 (by omega)
  obtain ⟨e1,e2⟩:=h h0
  obtain ⟨a,b,_⟩:=t.par h0 h1
  obtain ⟨p1,p2,_,_⟩:=part_frac t a b
  obtain ⟨s1,s2⟩:=tot_ge t h0 h1
  rw [e1,e2]
  generalize (partV ls (parV ls i)).1 = x at *
  generalize (partV ls (parV ls i)).2 = y at *
  have h2 : x * y * shV ls i ≤ x * y * totS ls (parV ls i):=Int.mul_le_mul_of_nonneg_left s2 (Int.mul_nonneg (by omega) (by omega))
  have e3 : x * shV ls i * y = x * y * shV ls i:=by grind
  have e4 : x * (y * totS ls (parV ls i)) = x * y * totS ls (parV ls i):=by grind
  omega
def uV (ls : List Acc) (W : Int) (i : Int) : Int:=sumV ls i * 9223372036854775808 / W
theorem rd_sums {ls : List Acc} {i : Int} (h0 : 0 ≤ i) (h1 : i < ls.length) : rd (sumsV ls) i = sumV ls i:=by
  obtain ⟨j,rfl⟩ : ∃ j : Nat,i = j:=⟨i.toNat,by omega⟩
  exact rd_range (F:=fun k : Nat => sumV ls (k : Int)) (by omega)
theorem sum_le {ls : List Acc} (t : Tree ls) (hu : AccU ls) : ∀ (d : Nat) (i : Int),0 ≤ i → i < ls.length → depV ls i = d → sumV ls i ≤ sumV ls 0
  | 0,i,h0,h1,hd => by rw [dep_zero (ls:=ls) hd];exact Int.le_refl _
  | d + 1,i,h0,h1,hd => by
    have hi : 0 < i:=by
      rcases Int.lt_or_le 0 i with h | h
      · exact h
      · have : i = 0:=by omega
        rw [this,dep_root] at hd;omega
    obtain ⟨a,b,c⟩:=t.par hi h1
    have h2:=sum_le t hu d _ a b (by omega)
    have h3:=sum_par t hu hi h1
    omega
theorem u_bd {ls : List Acc} (t : Tree ls) (hu : AccU ls) {W : Int} (hW : 0 < W) (hs : sumV ls 0 ≤ W) {i : Int} (h0 : 0 ≤ i) (h1 : i < ls.length) : partQ (rd (sumsV ls) i) 9223372036854775808 W = uV ls W i ∧ 0 ≤ uV ls W i ∧ uV ls W i ≤ 9223372036854775808:=by
  have hd:=t.dep i.toNat (by omega)
  rw [Int.toNat_of_nonneg h0] at hd
  have h2:=sum_le t hu (depV ls i).toNat i h0 h1 (by omega)
  have h3:=(sumV_in hu i).1
  have h4 : 0 ≤ uV ls W i:=Int.ediv_nonneg (by omega) (by omega)
  have h5 : uV ls W i ≤ 9223372036854775808:=by
    unfold uV
    have : sumV ls i * 9223372036854775808 / W ≤ W * 9223372036854775808 / W:=Int.ediv_le_ediv hW (by omega)
    rw [Int.mul_ediv_cancel_left _ (by omega)] at this
    exact this
  refine ⟨?_,h4,h5⟩
  rw [rd_sums h0 h1]
  unfold partQ
  rw [if_neg (by omega)]
  unfold uV at h4 h5 ⊢
  omega
theorem div_le_self' {x s S : Int} (hx : 0 ≤ x) (hs : 0 ≤ s) (h : s ≤ S) (hS : 0 < S) : 0 ≤ x * s / S ∧ x * s / S ≤ x:=by
  refine ⟨Int.ediv_nonneg (Int.mul_nonneg hx hs) (by omega),?_⟩
  have : x * s / S ≤ x * S / S:=Int.ediv_le_ediv hS (Int.mul_le_mul_of_nonneg_left h hx)
  rwa [Int.mul_ediv_cancel _ (by omega)] at this
/-- Effective usages fall from the root down. -/
theorem eff_ok {ls : List Acc} (t : Tree ls) (hu : AccU ls) {W : Int} (hW : 0 < W) (hs : sumV ls 0 ≤ W) : ∀ (d : Nat) (i : Int),0 ≤ i → i < ls.length → depV ls i = d →
    uV ls W i ≤ effV ls W i ∧ effV ls W i ≤ 9223372036854775808 ∧ (i = 0 → effV ls W i = uV ls W 0) ∧ (0 < i → effV ls W i = uV ls W i + (effV ls W (parV ls i) - uV ls W i) * shV ls i / totS ls (parV ls i) ∧ effV ls W i ≤ effV ls W (parV ls i) ∧ uV ls W i ≤ effV ls W (parV ls i))
  | 0,i,h0,h1,hd => by
    have e:=dep_zero (ls:=ls) hd
    subst e
    obtain ⟨e1,e2,e3⟩:=u_bd t hu hW hs h0 h1
    have e4 : effV ls W 0 = uV ls W 0:=by rw [← e1];exact clm_root
    rw [e4]
    exact ⟨Int.le_refl _,e3,fun _ => rfl,fun h => by omega⟩
  | d + 1,i,h0,h1,hd => by
    have hi : 0 < i:=by
      rcases Int.lt_or_le 0 i with h | h
      · exact h
      · have : i = 0:=by omega
        rw [this,dep_root] at hd;omega
    obtain ⟨a,b,c⟩:=t.par hi h1
    obtain ⟨p1,p2,_,_⟩:=eff_ok t hu hW hs d _ a b (by omega)
    obtain ⟨u1,u2,u3⟩:=u_bd t hu hW hs h0 h1
    obtain ⟨v1,v2,v3⟩:=u_bd t hu hW hs a b
    have hup : uV ls W i ≤ uV ls W (parV ls i):=by
      unfold uV
      have:=sum_par t hu hi h1
      exact Int.ediv_le_ediv hW (by omega)
    obtain ⟨s1,s2⟩:=tot_ge t hi h1
    have hw:=t.kidw i.toNat (by omega)
    have hsis:=(sis_sum t (p:=parV ls i) (Nat.le_refl ls.length)).1
    rw [Int.toNat_of_nonneg h0] at hw
    have hstep : effV ls W i = efG ls (sumsV ls) W i (effV ls W (parV ls i)):=clm_step t hi h1
    unfold efG at hstep
    rw [u1,hw,hsis] at hstep
    rw [show sumL (shV ls) (kidsV ls (parV ls i) ls.length) = totS ls (parV ls i) from rfl] at hstep
    obtain ⟨E,hE⟩ : ∃ E,E = effV ls W (parV ls i):=⟨_,rfl⟩
    obtain ⟨u,hu'⟩ : ∃ u,u = uV ls W i:=⟨_,rfl⟩
    rw [← hE] at p1 p2 hstep ⊢
    rw [← hu'] at u1 u2 u3 hup hstep ⊢
    obtain ⟨q1,q2⟩:=div_le_self' (x:=E - u) (s:=shV ls i) (S:=totS ls (parV ls i)) (by omega) (by omega) s2 (by omega)
    have e5 : partQ (E - u) (shV ls i) (totS ls (parV ls i)) = (E - u) * shV ls i / totS ls (parV ls i):=by
      unfold partQ
      rw [if_neg (by omega)]
      exact Int.emod_eq_of_lt q1 (by omega)
    rw [w64_in (x:=E - u) (by omega) (by omega),e5,w64_in (by omega) (by omega)] at hstep
    exact ⟨by omega,by omega,fun h => by omega,fun _ => ⟨hstep,by omega,by omega⟩⟩
theorem dep_nat {ls : List Acc} (t : Tree ls) {i : Int} (h0 : 0 ≤ i) (h1 : i < ls.length) : depV ls i = ((depV ls i).toNat : Int):=by
  have hd:=t.dep i.toNat (by omega)
  rw [Int.toNat_of_nonneg h0] at hd
  omega
theorem mix_eq {u E s S : Int} (hS : 0 < S) : u + (E - u) * s / S = (u * (S - s) + E * s) / S:=by
  have e : u * (S - s) + E * s = (E - u) * s + u * S:=by grind
  rw [e,Int.add_mul_ediv_right _ _ (by omega)]
  omega
theorem mix_mono {u v E G s S : Int} (hS : 0 < S) (hs : 0 ≤ s) (h : s ≤ S) (h1 : u ≤ v) (h2 : E ≤ G) : u + (E - u) * s / S ≤ v + (G - v) * s / S:=by
  rw [mix_eq hS,mix_eq hS]
  have a:=Int.mul_le_mul_of_nonneg_right h1 (show 0 ≤ S - s by omega)
  have b:=Int.mul_le_mul_of_nonneg_right h2 hs
  exact Int.ediv_le_ediv hS (by omega)
end Go.Proofs.YtbhijfbjdbjpbaaDoor.T
namespace Go.Proofs.YtbhijfbjdbjpbaaDoor.T
open Go.RowKit Go.Proofs.YtbhijfbjdbjpbaaDoorW.PrintWords Go.Proofs.YtbhijfbjdbjpbaaDoorW.PrintLast Go.Proofs.YtbhijfbjdbjpbaaDoor.H Go.Maps Go.Proofs.YtbhijfbjdbjpbaaDoor.Q Go.Proofs.YtbhijfbjdbjpbaaDoor.GSH
set_option linter.unusedVariables false
set_option linter.unusedSimpArgs false
/-- Two lists that differ in usages alone. -/
structure Same (ls ms : List Acc) : Prop where
  z : ls.map zeroU = ms.map zeroU
theorem Same.len {ls ms : List Acc} (h : Same ls ms) : ls.length = ms.length:=by
  have:=congrArg List.length h.z
  simpa using this
theorem Same.pars {ls ms : List Acc} (h : Same ls ms) : ls.map Acc.par = ms.map Acc.par:=by
  have:=congrArg (List.map Acc.par) h.z
  rw [List.map_map,List.map_map] at this
  exact this
theorem Same.shs {ls ms : List Acc} (h : Same ls ms) : ls.map Acc.sh = ms.map Acc.sh:=by
  have:=congrArg (List.map Acc.sh) h.z
  rw [List.map_map,List.map_map] at this
  exact this
theorem Same.nms {ls ms : List Acc} (h : Same ls ms) : ls.map Acc.nm = ms.map Acc.nm:=by
  have:=congrArg (List.map Acc.nm) h.z
  rw [List.map_map,List.map_map] at this
  exact this
theorem Same.parV {ls ms : List Acc} (h : Same ls ms) (n : Int) : parV ls n = parV ms n:=by unfold T.parV;rw [h.pars]
theorem Same.shV {ls ms : List Acc} (h : Same ls ms) (n : Int) : shV ls n = shV ms n:=by unfold T.shV;rw [h.shs]
theorem Same.depL {ls ms : List Acc} (h : Same ls ms) : ∀ (k : Nat) (d n : Int),depL ls k d n = depL ms k d n
  | 0,_,_ => rfl
  | k + 1,d,n => by rw [T.depL,T.depL,h.parV,Same.depL h k]
theorem Same.depV {ls ms : List Acc} (h : Same ls ms) (n : Int) : depV ls n = depV ms n:=by unfold T.depV;rw [h.len,h.depL]
theorem Same.kidsV {ls ms : List Acc} (h : Same ls ms) (p : Int) : ∀ j,kidsV ls p j = kidsV ms p j
  | 0 => rfl
  | j + 1 => by rw [T.kidsV,T.kidsV,h.pars,h.len,Same.kidsV h p j]
theorem Same.there {ls ms : List Acc} (h : Same ls ms) (i : Nat) (s : ByteArray) : thereB (ls.take i) s = thereB (ms.take i) s:=by
  have e : ∀ xs : List Acc,thereB xs s = (xs.map Acc.nm).any (fun a => a.toList == s.toList):=fun xs => by
    unfold thereB
    rw [List.any_map];rfl
  rw [e,e,List.map_take,List.map_take,h.nms]
theorem Same.at {ls ms : List Acc} (h : Same ls ms) {i : Nat} {a : Acc} (ha : ls[i]? = some a) : ∃ b,ms[i]? = some b ∧ zeroU a = zeroU b:=by
  have:=congrArg (fun l => l[i]?) h.z
  simp only [List.getElem?_map,ha,Option.map_some] at this
  obtain ⟨b,hb,e⟩:=Option.map_eq_some_iff.1 this.symm
  exact ⟨b,hb,e.symm⟩
theorem Same.symm {ls ms : List Acc} (h : Same ls ms) : Same ms ls:=⟨h.z.symm⟩
theorem Same.rowE {ls ms : List Acc} (h : Same ls ms) (i : Nat) {a b : Acc} (e : zeroU a = zeroU b) : rowE ls i a = rowE ms i b:=by
  have e1 : a.nm = b.nm:=by have:=congrArg (fun x : Acc => x.nm) e;exact this
  have e2 : a.par = b.par:=by have:=congrArg (fun x : Acc => x.par) e;exact this
  have e3 : a.sh = b.sh:=by have:=congrArg (fun x : Acc => x.sh) e;exact this
  unfold T.rowE
  rw [e1,e2,e3,h.there,h.len]
theorem Same.rowsE {ls ms : List Acc} (h : Same ls ms) : ∀ k i,rowsE ls k i = rowsE ms k i
  | 0,_ => rfl
  | k + 1,i => by
    rw [T.rowsE,T.rowsE]
    cases ha : ls[i]? with
    | none =>
      have : ms[i]? = none:=by
        cases hb : ms[i]? with
        | none => rfl
        | some b =>
          obtain ⟨a,ha2,_⟩:=h.symm.at hb
          rw [ha] at ha2;cases ha2
      rw [this]
    | some a =>
      obtain ⟨b,hb,e⟩:=h.at ha
      rw [hb]
      simp only
      rw [h.rowE i e,Same.rowsE h k]
theorem Same.depsE {ls ms : List Acc} (h : Same ls ms) : ∀ k i,depsE ls k i = depsE ms k i
  | 0,_ => rfl
  | k + 1,i => by rw [T.depsE,T.depsE,Same.depsE h k];unfold depE;rw [h.depV]
theorem Same.load {ls ms : List Acc} (h : Same ls ms) : loadE ls = loadE ms:=by
  cases ls with
  | nil =>
    cases ms with
    | nil => rfl
    | cons b r => have:=h.len;simp at this
  | cons a r =>
    cases ms with
    | nil => have:=h.len;simp at this
    | cons b s =>
      obtain ⟨b',hb,e⟩:=h.at (i:=0) (a:=a) rfl
      simp at hb
      subst hb
      have hl:=h.len
      have hl2 : r.length = s.length:=by simpa using hl
      unfold loadE
      simp only
      rw [e,hl,hl2,h.rowsE,h.depsE]
theorem addU_mono {a b c d : Int} (h1 : a ≤ c) (h2 : b ≤ d) (hd : c + d < 36893488147419103232) : addU a b ≤ addU c d:=by
  unfold addU
  split <;> split <;> omega
theorem fold_mono {g h : Int → Int} (hU : ∀ k,U (h k)) (hg : ∀ k,U (g k)) : ∀ (ks : List Int) (x y : Int),(∀ k ∈ ks,g k ≤ h k) → U x → U y → x ≤ y → ks.foldl (fun x i => addU x (g i)) x ≤ ks.foldl (fun x i => addU x (h i)) y
  | [],x,y,_,_,_,e => e
  | k :: r,x,y,hk,hx,hy,e => by
    have h1:=hU k
    have h2:=hg k
    rw [List.foldl_cons,List.foldl_cons]
    exact fold_mono hU hg r _ _ (fun j hj => hk j (List.mem_cons_of_mem _ hj)) (addU_in hx h2) (addU_in hy h1) (addU_mono e (hk k (List.mem_cons_self ..)) (by have:=hy.2;have:=h1.2;omega))
theorem sumF_mono {ls ms : List Acc} (h : Same ls ms) (hl : AccU ls) (hm : AccU ms) (hus : ∀ i,usV ls i ≤ usV ms i) : ∀ (k : Nat) (p : Int),sumF ls k p ≤ sumF ms k p
  | 0,_ => Int.le_refl _
  | k + 1,p => by
    rw [sumF,sumF,h.kidsV,h.len]
    exact fold_mono (sumF_in hm k) (sumF_in hl k) _ _ _ (fun j _ => sumF_mono h hl hm hus k j) (usV_in hl p) (usV_in hm p) (hus p)
theorem Same.totS {ls ms : List Acc} (h : Same ls ms) (p : Int) : totS ls p = totS ms p:=by
  unfold T.totS
  rw [h.kidsV,h.len,show T.shV ls = T.shV ms from funext h.shV]
theorem Same.clm {α : Type} {a : α} {g g' : Int → α → α} {ls ms : List Acc} (h : Same ls ms) (hg : ∀ i x,g i x = g' i x) : ∀ k i,clm a g ls k i = clm a g' ms k i
  | 0,_ => rfl
  | k + 1,i => by rw [T.clm,T.clm,h.parV,Same.clm h hg k,hg]
theorem Same.partV {ls ms : List Acc} (h : Same ls ms) (i : Int) : partV ls i = partV ms i:=by
  unfold T.partV
  refine h.clm (fun i x => ?_) 4 i
  unfold shG
  rw [h.shV,h.parV,h.kidsV,h.len]
  congr 1
  unfold sisV
  rw [show T.shV ls = T.shV ms from funext h.shV]
theorem eff_mono {ls ms : List Acc} (h : Same ls ms) (t : Tree ls) (tm : Tree ms) (hl : AccU ls) (hm : AccU ms) (hus : ∀ i,usV ls i ≤ usV ms i) {W : Int} (hW : 0 < W) (hs : sumV ms 0 ≤ W) :
    ∀ (d : Nat) (i : Int),0 ≤ i → i < ls.length → depV ls i = d → effV ls W i ≤ effV ms W i
  | d,i,h0,h1,hd => by
    have hsl : sumV ls 0 ≤ W:=Int.le_trans (sumF_mono h hl hm hus 5 0) hs
    have hum : uV ls W i ≤ uV ms W i:=by
      unfold uV
      have:=sumF_mono h hl hm hus 5 i
      unfold sumV
      exact Int.ediv_le_ediv hW (by omega)
    obtain ⟨a1,a2,a3,a4⟩:=eff_ok t hl hW hsl d i h0 h1 hd
    obtain ⟨b1,b2,b3,b4⟩:=eff_ok tm hm hW hs d i h0 (by rw [← h.len];exact h1) (by rw [← h.depV];exact hd)
    by_cases e : i = 0
    · have e1:=a3 e
      have e2:=b3 e
      rw [e1,e2]
      rw [e] at hum
      exact hum
    · have hi : 0 < i:=by omega
      obtain ⟨p0,p1,pd⟩:=t.par hi h1
      cases d with
      | zero => exact absurd (dep_zero (ls:=ls) hd) e
      | succ d =>
        have ih:=eff_mono h t tm hl hm hus hW hs d (T.parV ls i) p0 p1 (by omega)
        obtain ⟨s1,s2⟩:=tot_ge t hi h1
        rw [(a4 hi).1,(b4 hi).1,← h.parV,← h.shV,← h.totS]
        exact mix_mono (by omega) (by omega) s2 hum ih
theorem expQ_mono {x y n : Int} (hn : 0 < n) (h : x ≤ y) : expQ x n ≤ expQ y n:=by
  have : (x + n * 2147483648 - 1) / (n * 2147483648) ≤ (y + n * 2147483648 - 1) / (n * 2147483648):=Int.ediv_le_ediv (by omega) (by omega)
  unfold expQ
  split <;> split <;> omega
theorem expV_mono {u v n d : Int} (hn : 0 < n) (hd : 0 ≤ d) (h : u ≤ v) : expV u n d ≤ expV v n d:=by
  unfold expV
  split
  · exact expQ_mono (by decide) (by omega)
  · exact expQ_mono hn (Int.mul_le_mul_of_nonneg_right h hd)
theorem expQ_zero {x n : Int} (hn : 0 < n) (hx : 0 ≤ x) : expQ x n = 0 ↔ x = 0:=by
  unfold expQ
  have h0 : 0 ≤ (x + n * 2147483648 - 1) / (n * 2147483648):=Int.ediv_nonneg (by omega) (by omega)
  constructor
  · intro h
    by_cases e : x = 0
    · exact e
    · exfalso
      have h1 : (1 * (n * 2147483648)) / (n * 2147483648) ≤ (x + n * 2147483648 - 1) / (n * 2147483648):=Int.ediv_le_ediv (by omega) (by omega)
      rw [Int.mul_ediv_cancel _ (by omega)] at h1
      split at h <;> omega
  · intro h
    subst h
    have : (0 + n * 2147483648 - 1) / (n * 2147483648) = 0:=Int.ediv_eq_zero_of_lt (by omega) (by omega)
    rw [this];rfl
theorem expV_zero {u n d : Int} (hn : 0 < n) (hd : 0 < d) (hu : 0 ≤ u) : expV u n d = 0 ↔ u = 0:=by
  unfold expV
  split
  · rw [expQ_zero (by decide) (by omega)];omega
  · rw [expQ_zero hn (Int.mul_nonneg hu (by omega))]
    constructor
    · intro h
      rcases Int.mul_eq_zero.1 h with e | e
      · exact e
      · omega
    · intro h;rw [h,Int.zero_mul]
theorem half_zero : HH 0 = 9223372036854775808:=by decide +kernel
theorem half_one : HH 1 < 9223372036854775808:=by decide +kernel
theorem halfV_le (e : Int) : 0 ≤ halfV e ∧ halfV e ≤ 9223372036854775808:=by
  have:=HH_le e.toNat
  unfold halfV;omega
theorem halfV_mono {a b : Int} (h : a ≤ b) : halfV b ≤ halfV a:=by
  have:=HH_mono (e:=a.toNat) (f:=b.toNat) (by omega)
  unfold halfV;omega
theorem halfV_one {e : Int} (h : 0 ≤ e) : halfV e = 9223372036854775808 ↔ e = 0:=by
  constructor
  · intro he
    by_cases c : e = 0
    · exact c
    · exfalso
      have h1:=halfV_mono (a:=1) (b:=e) (by omega)
      have h2 : halfV 1 = ((HH 1 : Nat) : Int):=rfl
      have:=half_one
      omega
  · intro he
    subst he
    have : halfV 0 = ((HH 0 : Nat) : Int):=rfl
    rw [this,half_zero];rfl
theorem fact_ok {ls : List Acc} (t : Tree ls) {W i : Int} (h0 : 0 ≤ i) (h1 : i < ls.length) : factV ls W i ≤ 9223372036854775808 ∧ (factV ls W i = 9223372036854775808 ↔ effV ls W i = 0):=by
  obtain ⟨p1,p2,p3,p4⟩:=part_frac t h0 h1
  have hE:=eff_U (ls:=ls) (W:=W) i
  unfold factV
  refine ⟨(halfV_le _).2,?_⟩
  rw [halfV_one (expV_in hE p3 p4 (by omega)).1,expV_zero (by omega) (by omega) hE.1]
theorem fact_mono {ls ms : List Acc} (h : Same ls ms) (t : Tree ls) (tm : Tree ms) (hl : AccU ls) (hm : AccU ms) (hus : ∀ i,usV ls i ≤ usV ms i) {W : Int} (hW : 0 < W) (hs : sumV ms 0 ≤ W) {i : Int} (h0 : 0 ≤ i) (h1 : i < ls.length) : factV ms W i ≤ factV ls W i:=by
  obtain ⟨p1,p2,p3,p4⟩:=part_frac t h0 h1
  have:=eff_mono h t tm hl hm hus hW hs _ i h0 h1 (dep_nat t h0 h1)
  unfold factV
  rw [← h.partV]
  exact halfV_mono (expV_mono (by omega) (by omega) this)
theorem whole_floor {ls : List Acc} (t : Tree ls) {F : Int} (h : sumV ls 0 ≤ F) : wholeV ls F = F:=by
  unfold wholeV
  rw [rd_sums (by omega) (by have:=t.pos;omega)]
  split <;> omega
theorem whole_ge {ls : List Acc} (t : Tree ls) {F : Int} : F ≤ wholeV ls F ∧ sumV ls 0 ≤ wholeV ls F:=by
  unfold wholeV
  rw [rd_sums (by omega) (by have:=t.pos;omega)]
  split <;> omega
end Go.Proofs.YtbhijfbjdbjpbaaDoor.T
namespace Go.Proofs.YtbhijfbjdbjpbaaDoor.T
open Go.RowKit Go.Proofs.YtbhijfbjdbjpbaaDoorW.PrintWords Go.Proofs.YtbhijfbjdbjpbaaDoorW.PrintLast Go.Proofs.YtbhijfbjdbjpbaaDoor.H Go.Maps Go.Proofs.YtbhijfbjdbjpbaaDoor.Q Go.Proofs.YtbhijfbjdbjpbaaDoor.GSH
set_option linter.unusedVariables false
set_option linter.unusedSimpArgs false
theorem refload_calls (w : World) (A : Option Addr) (n c : Nat) (ls : List Acc) (hr : Rd Ec w A n ls) (hok : AccOk ls) :
    Calls Tryd.prog 9 #[.slice A n c] w (LoadI w ls):=by
  cases ls with
  | nil => obtain rfl : n = 0:=hr.1.symm;exact rload_nil w A c
  | cons x r =>
    obtain ⟨ad,e,_⟩:=hr.2.2 (by have:=hr.1;simp at this;omega)
    subst e
    cases hf : accEq (zeroU x) rootA with
    | false => exact rload_first w ad n c x r hr hf
    | true => exact rload_calls w ad n c x r hr hok hf
theorem rcheck_calls (w : World) (a0 a1 a2 a3 a4 a5 a6 a7 : Int) : Calls Tryd.prog 10 #[.agg #[.int .i64 a0,.int .i64 a1,.int .i64 a2,.int .i64 a3,.int .i64 a4,.int .i64 a5,.int .i64 a6,.int .i64 a7]] w fun e w' => e = .returned (.int .i64 (checkV a0 a1 a2 a3 a4 a5 a6 a7)) ∧ w.grownBy w' none:=
  (backfillref11_Check.calls 20 a0 a1 a2 a3 a4 a5 a6 a7 _ w (r_check 20 (by omega) a0 a1 a2 a3 a4 a5 a6 a7)).mono (fun e w' h => ⟨h.1,gb_of_below h.2 none⟩)
theorem rfloor_f (N Q L A F S P H : Int) : backfillref11_Floor.f 20 N Q L A F S P H = some (floorV N Q L A F S P H):=by
  unfold backfillref11_Floor.f floorV
  refine bind_of (r_check 20 (by omega) N Q L A F S P H) ?_
  by_cases h : checkV N Q L A F S P H = 0
  · rw [if_pos h,if_pos h]
    refine bind_of (r_C (bds (inR_cfg (check_cfg h)))) ?_
    have:=floor_bd h
    rw [w64_in (x:=N * P) (by omega) (by omega),w64_in (by omega) (by omega)]
  · rw [if_neg h,if_neg h]
theorem rfloor_calls (w : World) (a0 a1 a2 a3 a4 a5 a6 a7 : Int) : Calls Tryd.prog 13 #[.agg #[.int .i64 a0,.int .i64 a1,.int .i64 a2,.int .i64 a3,.int .i64 a4,.int .i64 a5,.int .i64 a6,.int .i64 a7]] w fun e w' => e = .returned (.int .u64 (floorV a0 a1 a2 a3 a4 a5 a6 a7)) ∧ w.grownBy w' none:=
  (backfillref11_Floor.calls 20 a0 a1 a2 a3 a4 a5 a6 a7 _ w (rfloor_f a0 a1 a2 a3 a4 a5 a6 a7)).mono (fun e w' h => ⟨h.1,gb_of_below h.2 none⟩)
theorem rmul_calls (w : World) (a b : Int) (ha : U a) (hb : U b) : Calls Tryd.prog 12 #[.int .u64 a,.int .u64 b] w fun e w' => e = .returned (.agg #[.int .u64 (a * b / 18446744073709551616),.int .u64 (a * b % 18446744073709551616)]) ∧ w.grownBy w' none:=
  (backfillref01_Mul.calls a b _ _ w (rmul ha hb)).mono (fun e w' h => ⟨h.1,gb_of_below h.2 none⟩)
theorem rcmp_calls (w : World) (a b c d : Int) (ha : U a) (hb : U b) (hc : U c) (hd : U d) : Calls Tryd.prog 11 #[.agg #[.int .u64 (a * b / 18446744073709551616),.int .u64 (a * b % 18446744073709551616)],.agg #[.int .u64 (c * d / 18446744073709551616),.int .u64 (c * d % 18446744073709551616)]] w fun e w' => e = .returned (.int .i64 (cmpV (a * b) (c * d))) ∧ w.grownBy w' none:=by
  have h:=rcmp (ah:=a * b / 18446744073709551616) (al:=a * b % 18446744073709551616) (bh:=c * d / 18446744073709551616) (bl:=c * d % 18446744073709551616) 5 (by omega) (hiU ha hb).2 (hiU hc hd).2
  rw [VV,VV] at h
  exact (backfillref01_Cmp.calls 5 _ _ _ _ _ w h).mono (fun e w' h => ⟨h.1,gb_of_below h.2 none⟩)
end Go.Proofs.YtbhijfbjdbjpbaaDoor.T
namespace Go.Proofs.YtbhijfbjdbjpbaaDoor.T
open Go.RowKit Go.Proofs.YtbhijfbjdbjpbaaDoorW.PrintWords Go.Proofs.YtbhijfbjdbjpbaaDoorW.PrintLast Go.Proofs.YtbhijfbjdbjpbaaDoor.H Go.Maps Go.Proofs.YtbhijfbjdbjpbaaDoor.Q Go.Proofs.YtbhijfbjdbjpbaaDoor.GSH
set_option linter.unusedVariables false
set_option linter.unusedSimpArgs false
/-- A list,the usage at j written over. -/
def putU (ms : List Acc) (j : Nat) (y : Int) : List Acc:=match ms[j]? with
  | some a => ms.set j ⟨a.nm,a.par,a.sh,a.cl,y⟩
  | none => ms
theorem putU_at {ms : List Acc} {j : Nat} {y : Int} {a : Acc} (h : ms[j]? = some a) : putU ms j y = ms.set j ⟨a.nm,a.par,a.sh,a.cl,y⟩:=by unfold putU;rw [h]
theorem putU_same {ms : List Acc} {j : Nat} {y : Int} {a : Acc} (h : ms[j]? = some a) : Same ms (putU ms j y):=⟨by
  rw [putU_at h,List.map_set]
  refine (List.ext_getElem? fun i => ?_)
  rw [List.getElem?_set]
  by_cases e : j = i
  · subst e
    rw [if_pos rfl,List.getElem?_map,h]
    have:=(List.getElem?_eq_some_iff.1 h).1
    simp [this,zeroU]
  · rw [if_neg e]⟩
theorem putU_us {ms : List Acc} {j : Nat} {y : Int} {a : Acc} (h : ms[j]? = some a) (i : Int) : usV (putU ms j y) i = if i.toNat = j then y else usV ms i:=by
  unfold usV
  have hl:=(List.getElem?_eq_some_iff.1 h).1
  rw [putU_at h,List.getD_eq_getElem?_getD,List.getElem?_map,List.getElem?_set]
  by_cases e : j = i.toNat
  · rw [if_pos e,if_pos e.symm]
    simp [hl]
  · rw [if_neg e,if_neg (fun h => e h.symm),List.getD_eq_getElem?_getD,List.getElem?_map]
theorem putU_U {ms : List Acc} {j : Nat} {y : Int} (hy : U y) (h : AccU ms) : AccU (putU ms j y):=by
  unfold putU
  split
  · intro b hb
    rcases List.mem_or_eq_of_mem_set hb with e | e
    · exact h b e
    · rw [e];exact hy
  · exact h
theorem putU_ok {ms : List Acc} {j : Nat} {y : Int} (h : AccOk ms) : AccOk (putU ms j y):=by
  unfold putU
  split
  · rename_i a ha
    intro b hb
    rcases List.mem_or_eq_of_mem_set hb with e | e
    · exact h b e
    · rw [e];exact h a (List.mem_of_getElem? ha)
  · exact h
theorem putU_tot {ms : List Acc} {j : Nat} {y : Int} {a : Acc} (h : ms[j]? = some a) : ∀ m,totV (putU ms j y) m = totV ms m + (if j < m then y - usV ms j else 0)
  | 0 => by simp [totV]
  | m + 1 => by
    rw [totV,totV,putU_tot h m,putU_us h]
    rw [Int.toNat_natCast]
    by_cases e : m = j
    · subst e
      rw [if_pos rfl,if_neg (by omega),if_pos (by omega)];omega
    · rw [if_neg e]
      by_cases e2 : j < m
      · rw [if_pos e2,if_pos (by omega)];omega
      · rw [if_neg e2,if_neg (by omega)];omega
theorem putU_row {w : World} {B b n c : Nat} {ms : List Acc} {j : Nat} {y : Int} {a : Acc} (h : ms[j]? = some a) (ho : w.ownsRow B 37 Ec.sz (.slice (some ⟨b,0,none⟩) n c) n (flat Ec ms)) : (w.setCell ⟨b,j * 5 + 4,none⟩ (.int .u64 y)).ownsRow B 37 Ec.sz (.slice (some ⟨b,0,none⟩) n c) n (flat Ec (putU ms j y)):=by
  rw [putU_at h]
  exact own_put (E:=Ec) ho j 4 a ⟨a.nm,a.par,a.sh,a.cl,y⟩ (.int .u64 y) h (by decide) rfl
theorem us_at {ms : List Acc} {j : Nat} {a : Acc} (h : ms[j]? = some a) : usV ms (j : Int) = a.us:=by
  unfold usV
  rw [Int.toNat_natCast,List.getD_eq_getElem?_getD,List.getElem?_map,h];rfl
theorem row_us {w : World} {B b n c : Nat} {ms : List Acc} {j : Nat} {a : Acc} (h : ms[j]? = some a) (ho : w.ownsRow B 37 Ec.sz (.slice (some ⟨b,0,none⟩) n c) n (flat Ec ms)) : w.cell? ⟨b,j * 5 + 4,none⟩ = some (.int .u64 (usV ms (j : Int))):=by
  rw [us_at h]
  exact own_cell (E:=Ec) ho j 4 a h (by decide) _ rfl
theorem tot_nonneg {ms : List Acc} (h : AccU ms) : ∀ m,0 ≤ totV ms m
  | 0 => Int.le_refl _
  | m + 1 => by
    have:=tot_nonneg h m
    have:=(usV_in h (m : Int)).1
    rw [totV];omega
theorem Same.refl (ls : List Acc) : Same ls ls:=⟨rfl⟩
theorem Same.trans {a b c : List Acc} (h : Same a b) (k : Same b c) : Same a c:=⟨h.z.trans k.z⟩
theorem own_atA {α : Type} {E : Enc α} {w : World} {B n : Nat} {e : TypeId} {v : Value} {xs : List α} (hl : xs.length = n) (hn : 0 < n) (h : w.ownsRow B e E.sz v n (flat E xs)) : ∃ b c,v = .slice (some ⟨b,0,none⟩) n c ∧ n ≤ c:=by
  obtain ⟨A,c,rfl,hr,hc,-⟩:=own_open hl h
  obtain ⟨ad,rfl,_⟩:=hr.2.2 hn
  exact ⟨ad.block,c,by rw [← (own_form h).2 ad rfl],hc⟩
set_option maxHeartbeats 8000000 in
set_option maxRecDepth 100000 in
theorem Laws_walk (w : World) (hL : LaidW w) (a0 a1 a2 a3 a4 a5 a6 a7 : Int) (A : Option Addr) (n c : Nat) (ls : List Acc) (hr : Rd Ec w A n ls) (hc : n ≤ c) (hs : n * 48 ≤ 140737488351232) (hok : AccOk ls) (hus : AccU ls) (who more : Int) (hwf : (Lit.int .i64 who).wf = true) (hmu : U more) :
    Calls Tryd.prog 3 #[.agg #[.int .i64 a0,.int .i64 a1,.int .i64 a2,.int .i64 a3,.int .i64 a4,.int .i64 a5,.int .i64 a6,.int .i64 a7],.slice A n c,.int .i64 who,.int .u64 more] w fun e w' => e = .returned (.bool true) ∧ w.grownBy w' none:=by
  have hlen:=hr.2.1
  have HLW:=Aside0.mk hL
  have HN:=Aside0.mk hr.1
  have HR:=Aside0.mk hr
  have HC0:=Aside0.mk hc
  have HSZ:=Aside0.mk hs
  have HOK:=Aside0.mk hok
  have HUS:=Aside0.mk hus
  have HMU:=Aside0.mk hmu
  have HWF:=Aside0.mk hwf
  have HSW:=Aside0.mk shown_calls
  have HSH:=Am (fun (W : World) (hW : Rd Ec W A n ls) => Shares_calls W A n c ls hW hc hok)
  have HEF:=Am (fun (W : World) (hW : Rd Ec W A n ls) => Effective_calls W a0 a1 a2 a3 a4 a5 a6 a7 A n c ls hW hc hok hus)
  have HFA:=Am (fun (W : World) (hl : LaidW W) (hW : Rd Ec W A n ls) => Factors_calls W hl a0 a1 a2 a3 a4 a5 a6 a7 A n c ls hW hc hok hus)
  have HRL:=Am (fun (W : World) (hW : Rd Ec W A n ls) => refload_calls W A n c ls hW hok)
  have HRC:=Am (fun (W : World) => rcheck_calls W a0 a1 a2 a3 a4 a5 a6 a7)
  have HRF:=Am (fun (W : World) => rfloor_calls W a0 a1 a2 a3 a4 a5 a6 a7)
  obtain ⟨CC,hC⟩ : ∃ C,C = checkV a0 a1 a2 a3 a4 a5 a6 a7:=⟨_,rfl⟩
  obtain ⟨F,hF⟩ : ∃ F,F = floorV a0 a1 a2 a3 a4 a5 a6 a7:=⟨_,rfl⟩
  have HCE:=Aside0.mk hC
  have HFE:=Aside0.mk hF
  rw [← hC,← hF] at HEF HFA
  rw [← hC] at HRC
  rw [← hF] at HRF
  clear hr hc hs hok hus hmu hwf hC hF hL
  go_enter Tryd.func3,Tryd.ntmps3
  go_upto_region 1 with (fail)
  have HX0:=Am (heap_alloc_new w (.cells #[.int .i64 a0,.int .i64 a1,.int .i64 a2,.int .i64 a3,.int .i64 a4,.int .i64 a5,.int .i64 a6,.int .i64 a7] 23))
  have HG0:=Am (World.grownBy_alloc w (.cells #[.int .i64 a0,.int .i64 a1,.int .i64 a2,.int .i64 a3,.int .i64 a4,.int .i64 a5,.int .i64 a6,.int .i64 a7] 23) none)
  obtain ⟨g7,hg7⟩ : ∃ g,g = w.heap.size:=⟨_,rfl⟩
  rw [← hg7] at HX0 ⊢
  clear hg7
  generalize w.alloc (.cells #[.int .i64 a0,.int .i64 a1,.int .i64 a2,.int .i64 a3,.int .i64 a4,.int .i64 a5,.int .i64 a6,.int .i64 a7] 23) = w0 at HX0 HG0 ⊢
  go_wp2_with fail
  refine (HSW.out w0 (laid_gb HLW.out HG0.out)).mono ?_
  rintro e w1 ⟨rfl,hg⟩
  have HX1:=Am (blk_kept HX0.out hg (by simp))
  have HG1:=Am (World.grownBy.trans HG0.out hg)
  clear hg HX0 HG0 HSW
  go_wp2_with fail
  refine (HSH.out w1 (HR.out.gb HG1.out)).mono ?_
  rintro e w2 ⟨hg,hsh⟩
  have HX2:=Am (blk_kept HX1.out hg (by simp))
  have HG2:=Am (World.grownBy.trans HG1.out hg)
  clear hg HX1 HG1 HSH
  rcases hsh with ⟨hne,rfl⟩ | ⟨h0,nb,db,hnd,rfl,hno,hdo⟩
  · have HNE:=Aside0.mk hne
    clear hne
    have c0:=cell_of (j:=0) HX2.out rfl
    have c1:=cell_of (j:=1) HX2.out rfl
    have c2:=cell_of (j:=2) HX2.out rfl
    have c3:=cell_of (j:=3) HX2.out rfl
    have c4:=cell_of (j:=4) HX2.out rfl
    have c5:=cell_of (j:=5) HX2.out rfl
    have c6:=cell_of (j:=6) HX2.out rfl
    have c7:=cell_of (j:=7) HX2.out rfl
    go_wp2_with fail
    refine (HEF.out w2 (HR.out.gb HG2.out)).mono ?_
    rintro e w3 ⟨hg,h⟩
    have HX3:=Am (blk_kept HX2.out hg (by simp))
    have HG3:=Am (World.grownBy.trans HG2.out hg)
    clear hg HX2 HG2 HEF c0 c1 c2 c3 c4 c5 c6 c7
    rcases h with ⟨_,rfl⟩ | ⟨h,_⟩
    · skip
      have c0:=cell_of (j:=0) HX3.out rfl
      have c1:=cell_of (j:=1) HX3.out rfl
      have c2:=cell_of (j:=2) HX3.out rfl
      have c3:=cell_of (j:=3) HX3.out rfl
      have c4:=cell_of (j:=4) HX3.out rfl
      have c5:=cell_of (j:=5) HX3.out rfl
      have c6:=cell_of (j:=6) HX3.out rfl
      have c7:=cell_of (j:=7) HX3.out rfl
      go_wp2_with fail
      refine (HFA.out w3 (laid_gb HLW.out HG3.out) (HR.out.gb HG3.out)).mono ?_
      rintro e w4 ⟨hg,h⟩
      have HG4:=Am (World.grownBy.trans HG3.out hg)
      clear hg HX3 HG3 HFA c0 c1 c2 c3 c4 c5 c6 c7
      rcases h with ⟨_,rfl⟩ | ⟨h,_⟩
      · go_wp2_with fail
        refine (HRL.out w4 (HR.out.gb HG4.out)).mono ?_
        rintro e w5 ⟨⟨o,rfl⟩,hg⟩
        have HG5:=Am (World.grownBy.trans HG4.out hg)
        obtain ⟨ev,hev⟩ : ∃ ev,ev = loadE ls:=⟨_,rfl⟩
        have b0 : (ev != 0) = true:=by rw [hev];simp [HNE.out]
        rw [← hev]
        clear hg HG4 HRL hev
        go_wp2
        go_ret
        exact ⟨rfl,HG5.out⟩
      · exact absurd h HNE.out
    · exact absurd h HNE.out
  · have HE0:=Aside0.mk h0
    have HT0:=Am (tree_of h0)
    rw [HN.out] at hno hdo ⊢
    have HNO:=Aside0.mk hno
    have HDO:=Aside0.mk hdo
    clear h0 hno hdo hnd
    have c0:=cell_of (j:=0) HX2.out rfl
    have c1:=cell_of (j:=1) HX2.out rfl
    have c2:=cell_of (j:=2) HX2.out rfl
    have c3:=cell_of (j:=3) HX2.out rfl
    have c4:=cell_of (j:=4) HX2.out rfl
    have c5:=cell_of (j:=5) HX2.out rfl
    have c6:=cell_of (j:=6) HX2.out rfl
    have c7:=cell_of (j:=7) HX2.out rfl
    go_wp2_with fail
    refine (HEF.out w2 (HR.out.gb HG2.out)).mono ?_
    rintro e w3 ⟨hg,hef⟩
    have HX3:=Am (blk_kept HX2.out hg (by simp))
    have HG3:=Am (World.grownBy.trans HG2.out hg)
    have HN3:=Am (own_kept HNO.out hg (by simp))
    have HD3:=Am (own_kept HDO.out hg (by simp))
    clear hg HX2 HG2 HEF HNO HDO c0 c1 c2 c3 c4 c5 c6 c7
    by_cases hC0 : CC = 0
    · rcases hef with ⟨h,_⟩ | ⟨_,_,eb,rfl,heo⟩
      · rcases h with h | h
        · exact absurd HE0.out h
        · exact absurd hC0 h
      rw [HN.out] at heo ⊢
      have HEO:=Aside0.mk heo
      have HC00:=Aside0.mk hC0
      clear heo hC0
      have c0:=cell_of (j:=0) HX3.out rfl
      have c1:=cell_of (j:=1) HX3.out rfl
      have c2:=cell_of (j:=2) HX3.out rfl
      have c3:=cell_of (j:=3) HX3.out rfl
      have c4:=cell_of (j:=4) HX3.out rfl
      have c5:=cell_of (j:=5) HX3.out rfl
      have c6:=cell_of (j:=6) HX3.out rfl
      have c7:=cell_of (j:=7) HX3.out rfl
      go_wp2_with fail
      refine (HFA.out w3 (laid_gb HLW.out HG3.out) (HR.out.gb HG3.out)).mono ?_
      rintro e w4 ⟨hg,hfa⟩
      rcases hfa with ⟨h,_⟩ | ⟨_,_,fv,rfl,hfo⟩
      · rcases h with h | h
        · exact absurd HE0.out h
        · exact absurd HC00.out h
      rw [HN.out] at hfo
      have hn0 : 0 < n:=by have:=HT0.out.pos;have:=HN.out;omega
      obtain ⟨fb,fc,rfl,hfc⟩:=own_at (by unfold factsV;rw [List.length_map,List.length_range];exact HN.out) hn0 hfo
      have HFO:=Aside0.mk hfo
      have HX4:=Am (blk_kept HX3.out hg (by simp))
      have HG4:=Am (World.grownBy.trans HG3.out hg)
      have HN4:=Am (own_kept HN3.out hg (by simp))
      have HD4:=Am (own_kept HD3.out hg (by simp))
      have HE4:=Am (own_kept HEO.out hg (by simp))
      clear hg HX3 HG3 HN3 HD3 HEO hfo c0 c1 c2 c3 c4 c5 c6 c7
      go_wp2_with fail
      refine (HRL.out w4 (HR.out.gb HG4.out)).mono ?_
      rintro e w5 ⟨⟨o,rfl⟩,hg⟩
      have HX5:=Am (blk_kept HX4.out hg (by simp))
      have HG5:=Am (World.grownBy.trans HG4.out hg)
      have HN5:=Am (own_kept HN4.out hg (by simp))
      have HD5:=Am (own_kept HD4.out hg (by simp))
      have HE5:=Am (own_kept HE4.out hg (by simp))
      have HF5:=Am (own_kept HFO.out hg (by simp))
      rw [HE0.out]
      clear hg HX4 HG4 HN4 HD4 HE4 HFO HRL
      have c0:=cell_of (j:=0) HX5.out rfl
      have c1:=cell_of (j:=1) HX5.out rfl
      have c2:=cell_of (j:=2) HX5.out rfl
      have c3:=cell_of (j:=3) HX5.out rfl
      have c4:=cell_of (j:=4) HX5.out rfl
      have c5:=cell_of (j:=5) HX5.out rfl
      have c6:=cell_of (j:=6) HX5.out rfl
      have c7:=cell_of (j:=7) HX5.out rfl
      go_wp2_with fail
      refine (HRC.out w5).mono ?_
      rintro e w6 ⟨rfl,hg⟩
      have HX6:=Am (blk_kept HX5.out hg (by simp))
      have HG6:=Am (World.grownBy.trans HG5.out hg)
      have HN6:=Am (own_kept HN5.out hg (by simp))
      have HD6:=Am (own_kept HD5.out hg (by simp))
      have HE6:=Am (own_kept HE5.out hg (by simp))
      have HF6:=Am (own_kept HF5.out hg (by simp))
      rw [HC00.out]
      clear hg HX5 HG5 HN5 HD5 HE5 HF5 HRC c0 c1 c2 c3 c4 c5 c6 c7
      have hnii : (0 : Int) < (n : Int):=by omega
      go_wp2_with fail
      obtain ⟨Wh,hWh⟩ : ∃ Wh,Wh = wholeV ls F:=⟨_,rfl⟩
      have HWH:=Aside0.mk hWh
      rw [← hWh] at HE6 HF6
      clear hWh
      have HFB:=Am (show 4294967296 ≤ F ∧ F ≤ 1152921504606846976 by
        have h1:=HC00.out
        rw [HCE.out] at h1
        have h2:=floor_bd h1
        rw [HFE.out]
        unfold floorV
        rw [if_pos h1];exact h2)
      have HWG:=Am (show 0 < Wh ∧ sumV ls 0 ≤ Wh by
        have h1:=whole_ge HT0.out (F:=F)
        have h2:=HFB.out
        rw [HWH.out];omega)
      go_loopg [16] n (fun k v16 wr => ∃ j : Nat,v16 = .int .i64 j ∧ Aside0 (j + k = n) ∧ j ≤ n ∧ Aside0 (w6.grownBy wr none))
      case atStart => exact ⟨0,rfl,⟨by omega⟩,by omega,⟨World.grownBy.refl _ _⟩⟩
      case round =>
        obtain ⟨j,rfl,HD,hj,HG⟩:=hrel
        cases gk with
        | zero =>
          obtain rfl : j = n:=by have:=HD.out;omega
          have hwb : -9223372036854775808 ≤ who ∧ who ≤ 9223372036854775807:=by
            have h:=HWF.out
            unfold Lit.wf at h
            simp only [Bool.and_eq_true,decide_eq_true_eq] at h
            rw [show IntKind.i64.min = -9223372036854775808 by decide,show IntKind.i64.max = 9223372036854775807 by decide] at h
            exact h
          have bn0 : ((j : Int) == 0) = false:=by rw [beq_eq_false_iff_ne];omega
          have bnl : (j == 0) = false:=by rw [beq_eq_false_iff_ne];omega
          have hG6:=World.grownBy.trans HG6.out HG.out
          have HXr:=Am (blk_kept HX6.out HG.out (by simp))
          have HRr:=Am (HR.out.gb hG6)
          have HGr:=Aside0.mk hG6
          clear hG6 HG HG6 HX6 HN6 HD6 HE6 HF6
          rcases Int.lt_or_le who 0 with hw0 | hw0
          have b6 : decide (who < 0) = true:=decide_eq_true hw0
          have hr1 : wrap64 (who + 1) = who + 1:=by unfold wrap64;omega
          have hr2 : wrap64 (-(who + 1)) = -(who + 1):=by unfold wrap64;omega
          go_upto_region 29 with (fail)
          obtain ⟨q,hq,hqn⟩ : ∃ q : Nat,-(who + 1).tmod (j : Int) = q ∧ q < j:=by
            have e : -(who + 1).tmod (j : Int) = (-(who + 1)) % (j : Int):=by
              rw [← Int.neg_tmod,tmod_eq (by omega)]
            have h1:=Int.emod_nonneg (-(who + 1)) (show (j : Int) ≠ 0 by omega)
            have h2:=Int.emod_lt_of_pos (-(who + 1)) (show (0 : Int) < j by omega)
            exact ⟨((-(who + 1)) % (j : Int)).toNat,by rw [e];omega,by omega⟩
          rw [hq]
          clear hq b6 hr1 hr2 hw0 hwb
          rotate_left
          have b6 : decide (who < 0) = false:=decide_eq_false (by omega)
          go_upto_region 29 with (fail)
          obtain ⟨q,hq,hqn⟩ : ∃ q : Nat,who % (j : Int) = q ∧ q < j:=by
            have h1:=Int.emod_nonneg who (show (j : Int) ≠ 0 by omega)
            have h2:=Int.emod_lt_of_pos who (show (0 : Int) < j by omega)
            exact ⟨(who % (j : Int)).toNat,by omega,by omega⟩
          rw [hq]
          clear hq b6 hw0 hwb
          rotate_left
          all_goals
            have HN0:=Am (show (wr.alloc (.cells #[] 37)).ownsRow wr.heap.size 37 Ec.sz (.slice (some ⟨wr.heap.size,0,none⟩) 0 0) 0 (flat Ec []) from World.ownsRow_lit (e:=37) (size:=5) wr #[] 0 (Nat.le_refl _) (by simp [maxLen]) (by simp))
            have HR1:=Am (HRr.out.gb (World.grownBy_alloc wr (.cells #[] 37) none))
            have HGa:=Am (World.grownBy_alloc wr (.cells #[] 37) none)
            have HSa:=HSZ.out
            go_wp2_with (at_builtin;refine app Ec wr.heap.size rfl (.tmp 199) (.tmp 200) 24 37 (.agg #[.string ⟨#[]⟩,.int .i64 0,.int .i64 0,.bool false,.int .u64 0]) 48 rfl Tryd.underlying24 (by kernel_rfl) rfl (by decide) _ 0 [] ls _ j _ rfl rfl rfl HN0.out HR1.out HGa.out.size (by omega) ?_;intro v9 w9 ho hg hn2;rw [Nat.zero_add,List.nil_append] at ho;obtain ⟨ub,uc,rfl,huc⟩:=own_atA HN.out hn0 ho;have HO9:=Aside0.mk ho;have HG9:=Am (gb_new HGa.out hg (Nat.le_refl _));have HX9:=Am (blk_kept HXr.out HG9.out (by simp));have c0:=cell_of (j:=0) HX9.out rfl;have c1:=cell_of (j:=1) HX9.out rfl;have c2:=cell_of (j:=2) HX9.out rfl;have c3:=cell_of (j:=3) HX9.out rfl;have c4:=cell_of (j:=4) HX9.out rfl;have c5:=cell_of (j:=5) HX9.out rfl;have c6:=cell_of (j:=6) HX9.out rfl;have c7:=cell_of (j:=7) HX9.out rfl;clear hg hn2 ho)
            refine (HRF.out w9).mono ?_
            rintro e w10 ⟨rfl,hg⟩
            have HX10:=Am (blk_kept HX9.out hg (by simp))
            have HO10:=Am (own_kept HO9.out hg (by simp))
            have HG10:=Am (World.grownBy.trans HGr.out (World.grownBy.trans HG9.out hg))
            obtain ⟨P,hP⟩ : ∃ P,P = wr.heap.size:=⟨_,rfl⟩
            have HPW:=Am (show w.heap.size ≤ P by rw [hP];exact HGr.out.size)
            have HPB:=Am (show P ≤ ub from by rw [hP];exact (HO10.out.lt ub rfl).1)
            have HG7B:=Am (show g7 < P by rw [hP];exact blk_lt' HXr.out)
            rw [← hP] at HO10
            have HUC:=Aside0.mk huc
            have HQN:=Aside0.mk hqn
            clear hg HX9 HO9 HG9 HXr HRr HGr HN0 HR1 HGa HSa huc c0 c1 c2 c3 c4 c5 c6 c7 hP hqn bn0 bnl
            go_wp2_with fail
            go_loopg [19,20] j (fun k v19 v20 wr => ∃ (i : Nat) (ms : List Acc) (room : Int),v19 = .int .u64 room ∧ v20 = .int .i64 i ∧ Aside0 (i + k = j) ∧ i ≤ j ∧ Aside0 (Same ls ms) ∧ Aside0 (AccU ms) ∧ Aside0 (AccOk ms) ∧ Aside0 (totV ms i + room = F) ∧ Aside0 (0 ≤ room) ∧ Aside0 (wr.ownsRow P 37 Ec.sz (.slice (some ⟨ub,0,none⟩) j uc) j (flat Ec ms)) ∧ Aside0 (Tn w10 wr (fun k => k = ub)))
            case atStart => exact ⟨0,ls,F,rfl,rfl,⟨by omega⟩,by omega,⟨Same.refl ls⟩,HUS,HOK,⟨by simp [totV]⟩,⟨by have:=HFB.out;omega⟩,HO10,⟨Tn.refl _ _⟩⟩
            case round =>
              obtain ⟨i,ms,room,rfl,rfl,HDI,hi,HSM,HMUS,HMOK,HTOT,HRM,HOW,HTW⟩:=hrel
              cases gk with
              | zero =>
                obtain rfl : i = j:=by have:=HDI.out;omega
                have hml : ms.length = i:=by rw [← HSM.out.len];exact HN.out
                have HML:=Aside0.mk hml
                have hld : loadE ms = 0:=by rw [← HSM.out.load];exact HE0.out
                have HLD:=Aside0.mk hld
                have HTM:=Am (tree_of hld)
                have HCF:=Am (show checkV a0 a1 a2 a3 a4 a5 a6 a7 = 0 by rw [← HCE.out];exact HC00.out)
                have HSB:=Am (show sumV ms 0 ≤ F by
                  have h1:=sum_total (tree_of hld) HMUS.out
                  rw [hml] at h1
                  have h2:=HTOT.out
                  have h3:=HRM.out
                  omega)
                have HXr:=Am (blk_tn HX10.out HTW.out (by show ¬ g7 = ub;have h1:=HG7B.out;have h2:=HPB.out;omega))
                have HTr:=Am ((Tn.gb0 HG10.out (fun k => w.heap.size ≤ k)).trans' (HTW.out.mono (fun x _ h => by show w.heap.size ≤ x;have h1:=HPW.out;have h2:=HPB.out;omega)))
                have HFC:=Am (Factors_calls wr (laid_tn HLW.out HTr.out (fun h => by have h1:=laid_pos HLW.out;omega)) a0 a1 a2 a3 a4 a5 a6 a7 (some ⟨ub,0,none⟩) i uc ms (own_rd hml HOW.out) HUC.out HMOK.out HMUS.out)
                clear hml hld HX10 HG10 HTW
                have c0:=cell_of (j:=0) HXr.out rfl
                have c1:=cell_of (j:=1) HXr.out rfl
                have c2:=cell_of (j:=2) HXr.out rfl
                have c3:=cell_of (j:=3) HXr.out rfl
                have c4:=cell_of (j:=4) HXr.out rfl
                have c5:=cell_of (j:=5) HXr.out rfl
                have c6:=cell_of (j:=6) HXr.out rfl
                have c7:=cell_of (j:=7) HXr.out rfl
                go_wp2_with fail
                refine (HFC.out).mono ?_
                rintro e w11 ⟨hg,hfa⟩
                rcases hfa with ⟨h,_⟩ | ⟨_,_,v1,rfl,hfo⟩
                · rcases h with h | h
                  · exact absurd HLD.out h
                  · exact absurd HCF.out h
                rw [← HFE.out,whole_floor HTM.out HSB.out,HML.out] at hfo
                obtain ⟨b1,c1',rfl,hb1⟩:=own_at (by unfold factsV;rw [List.length_map,List.length_range];exact HML.out) hn0 hfo
                have HB1:=Aside0.mk hfo
                have HO11:=Am (own_kept HOW.out hg (by simp))
                have HX11:=Am (blk_kept HXr.out hg (by simp))
                have HT11:=Am (HTr.out.trans' (Tn.gb0 hg _))
                have HBO:=Am (show ub < b1 from Nat.lt_of_lt_of_le (HOW.out.lt ub rfl).2 (hfo.lt b1 rfl).1)
                have hqn:=HQN.out
                have hqni : (q : Int) < (i : Int):=by omega
                obtain ⟨aq,haq⟩ : ∃ a,ms[q]? = some a:=⟨_,List.getElem?_eq_getElem (by rw [HML.out];exact hqn)⟩
                have HAQ:=Aside0.mk haq
                obtain ⟨u,hu⟩ : ∃ u,u = usV ms (q : Int):=⟨_,rfl⟩
                have HUV:=Aside0.mk hu
                have HCU:=Am (row_us haq (own_kept HO11.out (gb_drew w11 none) (by simp)))
                have hcu:=row_us haq HO11.out
                have hfu:=own_frozen HO11.out (q * 5 + 4)
                rw [← hu] at HCU hcu
                have HUU:=Am (show U u by rw [hu];exact usV_in HMUS.out _)
                have hrr : IntKind.u64.wrap (room + 1) = room + 1:=w64_in (by have:=HRM.out;omega) (by have h1:=HTOT.out;have h2:=tot_nonneg HMUS.out i;have h3:=HFB.out;omega)
                have brr : ((room + 1) == 0) = false:=by rw [beq_eq_false_iff_ne];have:=HRM.out;omega
                have brn : room + 1 ≠ 0:=by have:=HRM.out;omega
                clear hg hfo hb1 haq hu HOW HXr HTr HFC c0 c1 c2 c3 c4 c5 c6 c7
                go_upto_region 38 with (fail)
                refine start_ (n:=15) (S:=fun w' => w'.cell? ⟨ub,q * 5 + 4,none⟩ = some (.int .u64 u)) (ds:=[14]) #[nn,nn,nn,nn,nn,nn,nn,nn,nn,nn,nn,nn,nn,nn,nn] (by kernel_rfl) rfl rfl (HCU.out) (fun hHeld => ?_)
                refine pure_ (i:=0) (N:=some 232) (v:=?_) (a':=?_) #[yy,nn,nn,nn,nn,nn,nn,nn,nn,nn,nn,nn,nn,nn,nn] rfl rfl (by kernel_rfl) (fun _ _ _ h => h) (Or.inl ⟨by rfl,?_⟩) ?_ ?_
                rotate_left
                · intro w'
                  go_simp
                  with_reducible rfl
                rotate_left
                · simp only [NR]
                  rfl
                refine pure_ (i:=1) (N:=some 233) (v:=?_) (a':=?_) #[yy,yy,nn,nn,nn,nn,nn,nn,nn,nn,nn,nn,nn,nn,nn] rfl rfl (by kernel_rfl) (fun _ _ _ h => h) (Or.inl ⟨by rfl,?_⟩) ?_ ?_
                rotate_left
                · intro w'
                  go_simp
                  with_reducible rfl
                rotate_left
                · simp only [NR]
                  rfl
                refine pure_ (i:=2) (N:=some 234) (v:=?_) (a':=?_) #[yy,yy,yy,nn,nn,nn,nn,nn,nn,nn,nn,nn,nn,nn,nn] rfl rfl (by kernel_rfl) (fun _ _ _ h => h) (Or.inl ⟨by rfl,?_⟩) ?_ ?_
                rotate_left
                · intro w'
                  go_simp
                  with_reducible rfl
                rotate_left
                · simp only [NR]
                  rfl
                refine pure_ (i:=3) (N:=some 235) (v:=?_) (a':=?_) #[yy,yy,yy,yy,nn,nn,nn,nn,nn,nn,nn,nn,nn,nn,nn] rfl rfl (by kernel_rfl) (fun _ _ _ h => h) (Or.inl ⟨by rfl,?_⟩) ?_ ?_
                rotate_left
                · intro w'
                  go_simp
                  with_reducible rfl
                rotate_left
                · simp only [NR]
                  rfl
                refine pure_ (i:=4) (N:=some 236) (v:=?_) (a':=?_) #[yy,yy,yy,yy,yy,nn,nn,nn,nn,nn,nn,nn,nn,nn,nn] rfl rfl (by kernel_rfl) (fun _ _ _ h => h) (Or.inl ⟨by rfl,?_⟩) ?_ ?_
                rotate_left
                · intro w'
                  go_simp
                  with_reducible rfl
                rotate_left
                · simp only [NR]
                  rfl
                refine pure_ (i:=5) (N:=some 237) (v:=?_) (a':=?_) #[yy,yy,yy,yy,yy,yy,nn,nn,nn,nn,nn,nn,nn,nn,nn] rfl rfl (by kernel_rfl) (fun _ _ _ h => h) (Or.inl ⟨by rfl,?_⟩) ?_ ?_
                rotate_left
                · intro w'
                  go_simp
                  with_reducible rfl
                rotate_left
                · simp only [NR]
                  rfl
                refine pure_ (i:=7) (N:=some 239) (v:=?_) (a':=?_) #[yy,yy,yy,yy,yy,yy,nn,yy,nn,nn,nn,nn,nn,nn,nn] rfl rfl (by kernel_rfl) (fun _ _ _ h => h) (Or.inl ⟨by rfl,?_⟩) ?_ ?_
                rotate_left
                · intro w'
                  go_simp
                  with_reducible rfl
                rotate_left
                · simp only [NR]
                  rfl
                refine pure_ (i:=8) (N:=some 240) (v:=?_) (a':=?_) #[yy,yy,yy,yy,yy,yy,nn,yy,yy,nn,nn,nn,nn,nn,nn] rfl rfl (by kernel_rfl) (fun _ _ _ h => h) (Or.inl ⟨by rfl,?_⟩) ?_ ?_
                rotate_left
                · intro w'
                  go_simp
                  with_reducible rfl
                rotate_left
                · simp only [NR]
                  rfl
                refine pure_ (i:=9) (N:=some 241) (v:=?_) (a':=?_) #[yy,yy,yy,yy,yy,yy,nn,yy,yy,yy,nn,nn,nn,nn,nn] rfl rfl (by kernel_rfl) (fun _ _ _ h => h) (Or.inl ⟨by rfl,?_⟩) ?_ ?_
                rotate_left
                · intro w'
                  go_simp
                  with_reducible rfl
                rotate_left
                · simp only [NR]
                  rfl
                refine pure_ (i:=10) (N:=some 242) (v:=?_) (a':=?_) #[yy,yy,yy,yy,yy,yy,nn,yy,yy,yy,yy,nn,nn,nn,nn] rfl rfl (by kernel_rfl) (fun _ _ _ h => h) (Or.inl ⟨by rfl,?_⟩) ?_ ?_
                rotate_left
                · intro w'
                  go_simp
                  with_reducible rfl
                rotate_left
                · simp only [NR]
                  rfl
                refine take_ (i:=6) (N:=some 238) (v:=?_) (a':=?_) #[yy,yy,yy,yy,yy,yy,yy,yy,yy,yy,yy,nn,nn,nn,nn] rfl rfl (by kernel_rfl) (fun _ _ _ h => h) (Or.inl ⟨by rfl,?_⟩) hHeld ?_ ?_
                rotate_left
                · intro w' s0
                  go_simp
                  with_reducible rfl
                rotate_left
                · simp only [NR]
                  rfl
                refine pure_ (i:=11) (N:=some 243) (v:=?_) (a':=?_) #[yy,yy,yy,yy,yy,yy,yy,yy,yy,yy,yy,yy,nn,nn,nn] rfl rfl (by kernel_rfl) (fun _ _ _ h => h) (Or.inl ⟨by rfl,?_⟩) ?_ ?_
                rotate_left
                · intro w'
                  go_simp
                  with_reducible rfl
                rotate_left
                · simp only [NR]
                  rfl
                refine pure_ (i:=12) (N:=some 244) (v:=?_) (a':=?_) #[yy,yy,yy,yy,yy,yy,yy,yy,yy,yy,yy,yy,yy,nn,nn] rfl rfl (by kernel_rfl) (fun _ _ _ h => h) (Or.inl ⟨by rfl,?_⟩) ?_ ?_
                rotate_left
                · intro w'
                  go_simp
                  with_reducible rfl
                rotate_left
                · simp only [NR]
                  rfl
                refine pure_ (i:=13) (N:=some 245) (v:=?_) (a':=?_) #[yy,yy,yy,yy,yy,yy,yy,yy,yy,yy,yy,yy,yy,yy,nn] rfl rfl (by kernel_rfl) (fun _ _ _ h => h) (Or.inl ⟨by rfl,?_⟩) ?_ ?_
                rotate_left
                · intro w'
                  go_simp
                  with_reducible rfl
                rotate_left
                · simp only [NR]
                  rfl
                refine last_ (i:=14) (N:=none) #[yy,yy,yy,yy,yy,yy,yy,yy,yy,yy,yy,yy,yy,yy,yy] rfl rfl (by kernel_rfl) (by decide) (fun K hK => ?_)
                refine skip_ (w1:=?_) (by rfl) rfl ?_ ?_
                rotate_left
                · go_simp
                  rfl
                refine hK.out _ _ ?_
                clear hK K
                refine done_ (by kernel_rfl) ?_
                obtain ⟨y,hy⟩ : ∃ y,y = IntKind.u64.wrap (u + more.tmod (room + 1)):=⟨_,rfl⟩
                rw [← hy]
                have hyb : u ≤ y ∧ y ≤ u + room ∧ U y:=by
                  have h0:=HRM.out
                  have hm:=HMU.out.1
                  have e : more.tmod (room + 1) = more % (room + 1):=tmod_eq hm
                  have h1:=Int.emod_nonneg more (show room + 1 ≠ 0 by omega)
                  have h2:=Int.emod_lt_of_pos more (show 0 < room + 1 by omega)
                  have h3:=HUU.out.1
                  have h4 : u ≤ totV ms i:=by
                    have h5:=putU_tot (y:=0) HAQ.out i
                    rw [if_pos HQN.out,← HUV.out] at h5
                    have h6:=tot_nonneg (putU_U (j:=q) (y:=0) ⟨by decide,by decide⟩ HMUS.out) i
                    omega
                  have h7:=HTOT.out
                  have h8:=HFB.out
                  rw [e,w64_in (by omega) (by omega)] at hy
                  unfold U;omega
                have HYB:=Aside0.mk hyb
                have HO12:=Am (own_kept (putU_row (y:=y) HAQ.out HO11.out) (gb_drew _ none) (by simp))
                have TS : Tn w11 (w11.setCell ⟨ub,q * 5 + 4,none⟩ (.int .u64 y)).drew (fun k => k = ub):=(Tn.set (F:=fun k => k = ub) ub (q * 5 + 4) _ rfl).trans' (Tn.drew _ _)
                have HX12:=Am (blk_tn HX11.out TS (by show ¬ g7 = ub;have h1:=HG7B.out;have h2:=HPB.out;omega))
                have HB12:=Am (own_tn (own_kept (row:=none) HB1.out (gb_refl _ none) (by simp)) TS (fun k hk e => by cases hk;have h1:=HBO.out;have h2 : b1 = ub:=e;omega))
                have HT12:=Am (HT11.out.trans' (TS.mono (fun x _ h => by show w.heap.size ≤ x;have h1:=HPW.out;have h2:=HPB.out;omega)))
                clear hy hyb TS HX11 HO11 HB1 HT11 hcu hfu hrr brr brn
                generalize (w11.setCell ⟨ub,q * 5 + 4,none⟩ (.int .u64 y)).drew = w12 at HO12 HX12 HB12 HT12 ⊢
                obtain ⟨ns,hns⟩ : ∃ ns,ns = putU ms q y:=⟨_,rfl⟩
                have HSN:=Am (show Same ms ns by rw [hns];exact putU_same HAQ.out)
                have HNU:=Am (show AccU ns by rw [hns];exact putU_U HYB.out.2.2 HMUS.out)
                have HNK:=Am (show AccOk ns by rw [hns];exact putU_ok HMOK.out)
                have HNV:=Am (show ∀ k,usV ms k ≤ usV ns k from fun k => by
                  rw [hns,putU_us HAQ.out]
                  split
                  · rename_i e
                    have h1:=HYB.out.1
                    rw [HUV.out] at h1
                    have h2 : usV ms k = usV ms (q : Int):=by unfold usV;rw [e,Int.toNat_natCast]
                    omega
                  · exact Int.le_refl _)
                have hnl : ns.length = i:=by rw [← HSN.out.len];exact HML.out
                have HNL:=Aside0.mk hnl
                have hld : loadE ns = 0:=by rw [← HSN.out.load];exact HLD.out
                have HNLD:=Aside0.mk hld
                have HTN:=Am (tree_of hld)
                have HSBN:=Am (show sumV ns 0 ≤ F by
                  have h1:=sum_total (tree_of hld) HNU.out
                  rw [hnl,hns,putU_tot HAQ.out,if_pos HQN.out,← HUV.out] at h1
                  rw [← hns] at h1
                  have h2:=HTOT.out
                  have h3:=HYB.out
                  omega)
                rw [← hns] at HO12
                have HFD:=Am (Factors_calls w12 (laid_tn HLW.out HT12.out (fun h => by have h1:=laid_pos HLW.out;omega)) a0 a1 a2 a3 a4 a5 a6 a7 (some ⟨ub,0,none⟩) i uc ns (own_rd hnl HO12.out) HUC.out HNK.out HNU.out)
                clear hnl hld hns HCU
                have c0:=cell_of (j:=0) HX12.out rfl
                have c1:=cell_of (j:=1) HX12.out rfl
                have c2:=cell_of (j:=2) HX12.out rfl
                have c3:=cell_of (j:=3) HX12.out rfl
                have c4:=cell_of (j:=4) HX12.out rfl
                have c5:=cell_of (j:=5) HX12.out rfl
                have c6:=cell_of (j:=6) HX12.out rfl
                have c7:=cell_of (j:=7) HX12.out rfl
                go_wp2_with fail
                refine (HFD.out).mono ?_
                rintro e w13 ⟨hg,hfa⟩
                rcases hfa with ⟨h,_⟩ | ⟨_,_,v2,rfl,hfo⟩
                · rcases h with h | h
                  · exact absurd HNLD.out h
                  · exact absurd HCF.out h
                rw [← HFE.out,whole_floor HTN.out HSBN.out,HNL.out] at hfo
                have HLM:=Am (show (factsV ms F).length = i by unfold factsV;rw [List.length_map,List.length_range];exact HML.out)
                have HLNN:=Am (show (factsV ns F).length = i by unfold factsV;rw [List.length_map,List.length_range];exact HNL.out)
                obtain ⟨b2,c2',rfl,hb2⟩:=own_at HLNN.out hn0 hfo
                have HB2:=Aside0.mk hfo
                have HB13:=Am (own_kept HB12.out hg (by simp))
                have HT13:=Am (HT12.out.trans' (Tn.gb0 hg _))
                clear hg hfo hb2 HB12 HX12 HT12 HO12 HFD c0 c1 c2 c3 c4 c5 c6 c7
                go_wp2_with fail
                go_loopg [23] i (fun k v23 wr => ∃ j : Nat,v23 = .int .i64 j ∧ Aside0 (j + k = i) ∧ j ≤ i ∧ Aside0 (w13.grownBy wr none))
                case atStart => exact ⟨0,rfl,⟨by omega⟩,by omega,⟨World.grownBy.refl _ _⟩⟩
                case round =>
                  obtain ⟨j,rfl,HDK,hjk,HGK⟩:=hrel
                  cases gk with
                  | zero =>
                    obtain rfl : j = i:=by have:=HDK.out;omega
                    go_wp2
                    go_ret
                    exact ⟨rfl,gb_of_tn (HT13.out.trans' (Tn.gb0 HGK.out _)) (fun k h => h)⟩
                  | succ d =>
                    have hlt : j < i:=by have:=HDK.out;omega
                    have hlt1 : decide ((j : Int) < (i : Int)) = true:=decide_eq_true (by omega)
                    have hji : (j : Int) < (i : Int):=by omega
                    have h1:=num_cell (own_kept HB13.out HGK.out (by simp)) hlt HLM.out
                    have h2:=num_cell (own_kept HB2.out HGK.out (by simp)) hlt HLNN.out
                    have hle : rd (factsV ns F) (j : Int) ≤ rd (factsV ms F) (j : Int):=by
                      unfold factsV
                      rw [rd_range (F:=fun k : Nat => factV ns F (k : Int)) (by rw [HNL.out];exact hlt),rd_range (F:=fun k : Nat => factV ms F (k : Int)) (by rw [HML.out];exact hlt)]
                      exact fact_mono HSN.out HTM.out HTN.out HMUS.out HNU.out HNV.out (by have:=HFB.out;omega) HSBN.out (by omega) (by rw [HML.out];omega)
                    have b1 : decide (rd (factsV ms F) (j : Int) < rd (factsV ns F) (j : Int)) = false:=decide_eq_false (by omega)
                    clear hle
                    go_upto_region 45 with (fail)
                    go_quiet (fail)
                    go_wp2_with fail
                    go_roundg d
                    case measure => omega
                    case rel => exact ⟨j + 1,by go_num,⟨by have:=HDK.out;omega⟩,by omega,⟨World.grownBy.trans HGK.out (gb_drewN _ _ none)⟩⟩
              | succ d =>
                have hlt : i < j:=by have:=HDI.out;omega
                have hlt1 : decide ((i : Int) < (j : Int)) = true:=decide_eq_true (by omega)
                have hji : (i : Int) < (j : Int):=by omega
                obtain ⟨a,ha⟩ : ∃ a,ms[i]? = some a:=⟨_,List.getElem?_eq_getElem (by rw [← HSM.out.len,HN.out];exact hlt)⟩
                have HA:=Aside0.mk ha
                have hcu:=row_us ha HOW.out
                have hfu:=own_frozen HOW.out (i * 5 + 4)
                have HUI:=Am (usV_in HMUS.out (i : Int))
                obtain ⟨u,hu⟩ : ∃ u,u = usV ms (i : Int):=⟨_,rfl⟩
                have HUE:=Aside0.mk hu
                have HFL:=Am (tot_nonneg HMUS.out i)
                rw [← hu] at hcu HUI
                clear ha hu
                rcases Int.lt_or_le room u with hru | hru
                · have b1 : decide (room < u) = true:=decide_eq_true hru
                  go_upto_region 36 with (fail)
                  have HOS:=Am (putU_row (y:=room) HA.out HOW.out)
                  have HTS:=Am (HTW.out.trans' (Tn.set (F:=fun k => k = ub) ub (i * 5 + 4) (.int .u64 room) rfl))
                  have HA2 : Aside0 (∃ b,(putU ms i room)[i]? = some b):=⟨(putU_same (y:=room) HA.out).at HA.out |>.elim fun b h => ⟨b,h.1⟩⟩
                  generalize wr.setCell ⟨ub,i * 5 + 4,none⟩ (.int .u64 room) = ws at HOS HTS ⊢
                  obtain ⟨a2,ha2⟩:=HA2.out
                  have hcu2:=row_us ha2 HOS.out
                  rw [putU_us HA.out,Int.toNat_natCast,if_pos rfl] at hcu2
                  have hww : IntKind.u64.wrap (room - room) = 0:=by rw [w64];omega
                  have hUR : U room:=by have h1:=HRM.out;have h2:=HTOT.out;have h3:=HFL.out;have h4:=HFB.out;unfold U;omega
                  have HUR:=Aside0.mk hUR
                  clear hcu hfu hru ha2 hUR
                  go_wp2_with fail
                  go_roundg d
                  case measure => omega
                  case rel =>
                    refine ⟨i + 1,putU ms i room,_,rfl,by go_num,⟨by have:=HDI.out;omega⟩,by omega,⟨HSM.out.trans (putU_same HA.out)⟩,⟨putU_U HUR.out HMUS.out⟩,⟨putU_ok HMOK.out⟩,⟨?_⟩,⟨by omega⟩,HOS,HTS⟩
                    rw [totV,putU_tot HA.out,putU_us HA.out,Int.toNat_natCast,if_pos rfl,if_neg (by omega)]
                    have:=HTOT.out;omega
                · have b1 : decide (room < u) = false:=decide_eq_false (by omega)
                  have hww : IntKind.u64.wrap (room - u) = room - u:=w64_in (by omega) (by have h1:=HUI.out.1;have h2:=HTOT.out;have h3:=HFL.out;have h4:=HFB.out;omega)
                  have HRU:=Aside0.mk hru
                  clear hru
                  go_wp2_with fail
                  go_roundg d
                  case measure => omega
                  case rel =>
                    refine ⟨i + 1,ms,_,rfl,by go_num,⟨by have:=HDI.out;omega⟩,by omega,HSM,HMUS,HMOK,⟨?_⟩,⟨by have:=HRU.out;omega⟩,HOW,HTW⟩
                    rw [totV,← HUE.out]
                    have:=HTOT.out;omega
        | succ d =>
          have hlt : j < n:=by have:=HD.out;omega
          have hlt1 : decide ((j : Int) < (n : Int)) = true:=decide_eq_true (by omega)
          have hji : (j : Int) < (n : Int):=by omega
          have hjl : j < ls.length:=by rw [HN.out];exact hlt
          have hjli : (j : Int) < (ls.length : Int):=by omega
          have HNj:=Am (own_kept HN6.out HG.out (by simp))
          have HDj:=Am (own_kept HD6.out HG.out (by simp))
          have HEj:=Am (own_kept HE6.out HG.out (by simp))
          have HFj:=Am (own_kept HF6.out HG.out (by simp))
          have HRj:=Am ((HR.out.gb HG6.out).gb HG.out)
          have HLn:=Am (show (numsV ls).length = n by unfold numsV;rw [List.length_map,List.length_range];exact HN.out)
          have HLd:=Am (show (densV ls).length = n by unfold densV;rw [List.length_map,List.length_range];exact HN.out)
          have HLe:=Am (show (effsV ls Wh).length = n by unfold effsV;rw [List.length_map,List.length_range];exact HN.out)
          have HLf:=Am (show (factsV ls Wh).length = n by unfold factsV;rw [List.length_map,List.length_range];exact HN.out)
          have hxn:=num_cell HNj.out hlt HLn.out
          have hyn:=num_cell HDj.out hlt HLd.out
          have hen:=num_cell HEj.out hlt HLe.out
          have hfn:=num_cell HFj.out hlt HLf.out
          obtain ⟨x,hx⟩ : ∃ x,x = (partV ls (j : Int)).1:=⟨_,rfl⟩
          obtain ⟨y,hy⟩ : ∃ y,y = (partV ls (j : Int)).2:=⟨_,rfl⟩
          obtain ⟨ev,hev⟩ : ∃ ev,ev = effV ls Wh (j : Int):=⟨_,rfl⟩
          obtain ⟨fv,hfv⟩ : ∃ fv,fv = factV ls Wh (j : Int):=⟨_,rfl⟩
          rw [show rd (numsV ls) (j : Int) = x by rw [hx];exact rd_range hjl] at hxn
          rw [show rd (densV ls) (j : Int) = y by rw [hy];exact rd_range hjl] at hyn
          rw [show rd (effsV ls Wh) (j : Int) = ev by rw [hev];exact rd_range hjl] at hen
          rw [show rd (factsV ls Wh) (j : Int) = fv by rw [hfv];exact rd_range hjl] at hfn
          have hpf:=part_frac HT0.out (i:=(j : Int)) (by omega) hjli
          rw [← hx,← hy] at hpf
          have hfo:=fact_ok HT0.out (W:=Wh) (i:=(j : Int)) (by omega) hjli
          rw [← hfv,← hev] at hfo
          have HUX:=Aside0.mk hpf.2.2.1
          have HUY:=Aside0.mk hpf.2.2.2
          have b1 : decide (9223372036854775808 < fv) = false:=decide_eq_false (by omega)
          have b4 : decide (x < 1) = false:=decide_eq_false (by omega)
          have b5 : decide (y < x) = false:=decide_eq_false (by omega)
          obtain ⟨bz,hbz⟩ : ∃ b,b = decide (ev = 0):=⟨_,rfl⟩
          have b2 : (fv == 9223372036854775808) = bz:=by
            rw [hbz,Bool.eq_iff_iff,beq_iff_eq,decide_eq_true_iff];exact hfo.2
          have b3 : (ev == 0) = bz:=by rw [hbz,Bool.eq_iff_iff,beq_iff_eq,decide_eq_true_iff]
          have HXE:=Aside0.mk hx
          have HYE:=Aside0.mk hy
          have HEE:=Aside0.mk hev
          clear hbz hfo hpf hx hy hev hfv
          obtain ⟨acc,hacc⟩ : ∃ a,ls[j]? = some a:=⟨_,List.getElem?_eq_getElem hjl⟩
          have HACC:=Aside0.mk hacc
          obtain ⟨ad,hA,-⟩:=HR.out.2.2 hn0
          subst hA
          have hpc:=(acc_cells HRj.out hacc).2.1
          have HPV:=Am (parV_at hacc)
          clear hacc
          go_upto_region 19 with (fail)
          go_quiet (fail)
          go_upto_region 22 with (fail)
          have hq:=gb_drewN wr nq none
          have HNq:=Am (own_kept HNj.out hq (by simp))
          have HDq:=Am (own_kept HDj.out hq (by simp))
          have HEq:=Am (own_kept HEj.out hq (by simp))
          have HGq:=Am (World.grownBy.trans HG.out hq)
          clear hq hpc hxn hyn hen hfn b1 b2 b3 b4 b5 HNj HDj HEj HFj HRj
          generalize wr.drewN nq = wq at HNq HDq HEq HGq ⊢
          rcases Int.lt_or_le acc.par 0 with hp | hp
          · have b7 : decide (0 ≤ acc.par) = false:=decide_eq_false (by omega)
            go_quiet (fail)
            go_wp2_with fail
            go_roundg d
            case measure => omega
            case rel => exact ⟨j + 1,by go_num,⟨by have:=HD.out;omega⟩,by omega,⟨World.grownBy.trans HGq.out (gb_drewN _ _ none)⟩⟩
          · have b7 : decide (0 ≤ acc.par) = true:=decide_eq_true hp
            obtain ⟨p,hpp⟩ : ∃ p : Nat,acc.par = p:=⟨acc.par.toNat,by omega⟩
            have hj0 : 0 < (j : Int):=by
              rcases Nat.eq_zero_or_pos j with h | h
              · have h1:=HPV.out
                rw [h] at h1
                have h2:=HT0.out.par0
                have h3 : T.parV ls ((0 : Nat) : Int) = T.parV ls 0:=rfl
                omega
              · omega
            obtain ⟨q0,q1,q2⟩:=HT0.out.par hj0 hjli
            rw [HPV.out,hpp] at q0 q1 q2
            have hpn : p < n:=by have:=HN.out;omega
            have hpni : (p : Int) < (n : Int):=by omega
            have hpl : p < ls.length:=by rw [HN.out];exact hpn
            obtain ⟨xp,hx⟩ : ∃ x,x = (partV ls (p : Int)).1:=⟨_,rfl⟩
            obtain ⟨yp,hy⟩ : ∃ y,y = (partV ls (p : Int)).2:=⟨_,rfl⟩
            obtain ⟨ep,hev⟩ : ∃ ev,ev = effV ls Wh (p : Int):=⟨_,rfl⟩
            have hpf:=part_frac HT0.out (i:=(p : Int)) (by omega) q1
            rw [← hx,← hy] at hpf
            have HUXP:=Aside0.mk hpf.2.2.1
            have HUYP:=Aside0.mk hpf.2.2.2
            have hpar:=part_par HT0.out hj0 hjli
            rw [HPV.out,hpp,← hx,← hy,← HXE.out,← HYE.out] at hpar
            obtain ⟨cm,hcm⟩ : ∃ cm,cm = cmpV (x * yp) (xp * y):=⟨_,rfl⟩
            have HCM:=Aside0.mk hcm
            have b9 : decide (0 < cm) = false:=decide_eq_false (by rw [hcm];unfold cmpV;split;omega;split <;> omega)
            have hee:=(eff_ok HT0.out HUS.out HWG.out.1 HWG.out.2 _ (j : Int) (by omega) hjli (dep_nat HT0.out (by omega) hjli)).2.2.2 hj0
            rw [HPV.out,hpp,← hev,← HEE.out] at hee
            have b8 : decide (ep < ev) = false:=decide_eq_false (by omega)
            have HK:=Am (show wq.drew.cell? ⟨eb,j,none⟩ = some (.int .u64 ev) ∧ wq.drew.cell? ⟨eb,p,none⟩ = some (.int .u64 ep) ∧ wq.drew.cell? ⟨nb,j,none⟩ = some (.int .u64 x) ∧ wq.drew.cell? ⟨db,p,none⟩ = some (.int .u64 yp) ∧ wq.drew.cell? ⟨nb,p,none⟩ = some (.int .u64 xp) ∧ wq.drew.cell? ⟨db,j,none⟩ = some (.int .u64 y) from
              ⟨by have:=num_cell HEq.out hlt HLe.out;rwa [show rd (effsV ls Wh) (j : Int) = ev by rw [HEE.out];exact rd_range hjl] at this,
               by have:=num_cell HEq.out hpn HLe.out;rwa [show rd (effsV ls Wh) (p : Int) = ep by rw [hev];exact rd_range hpl] at this,
               by have:=num_cell HNq.out hlt HLn.out;rwa [show rd (numsV ls) (j : Int) = x by rw [HXE.out];exact rd_range hjl] at this,
               by have:=num_cell HDq.out hpn HLd.out;rwa [show rd (densV ls) (p : Int) = yp by rw [hy];exact rd_range hpl] at this,
               by have:=num_cell HNq.out hpn HLn.out;rwa [show rd (numsV ls) (p : Int) = xp by rw [hx];exact rd_range hpl] at this,
               by have:=num_cell HDq.out hlt HLd.out;rwa [show rd (densV ls) (j : Int) = y by rw [HYE.out];exact rd_range hjl] at this⟩)
            rw [hpp] at b7 ⊢
            clear hcm hx hy hev hpf hpar hee q0 q1 q2 hpp hp
            refine start_ (n:=35) (S:=fun w' => w'.cell? ⟨eb,j,none⟩ = some (.int .u64 ev) ∧ w'.cell? ⟨eb,p,none⟩ = some (.int .u64 ep) ∧ w'.cell? ⟨nb,j,none⟩ = some (.int .u64 x) ∧ w'.cell? ⟨db,p,none⟩ = some (.int .u64 yp) ∧ w'.cell? ⟨nb,p,none⟩ = some (.int .u64 xp) ∧ w'.cell? ⟨db,j,none⟩ = some (.int .u64 y)) (ds:=[]) #[nn,nn,nn,nn,nn,nn,nn,nn,nn,nn,nn,nn,nn,nn,nn,nn,nn,nn,nn,nn,nn,nn,nn,nn,nn,nn,nn,nn,nn,nn,nn,nn,nn,nn,nn] (by kernel_rfl) rfl rfl ⟨HK.out.1,HK.out.2.1,HK.out.2.2.1,HK.out.2.2.2.1,HK.out.2.2.2.2.1,HK.out.2.2.2.2.2⟩ (fun hHeld => ?_)
            refine pure_ (i:=0) (N:=some 151) (v:=?_) (a':=?_) #[yy,nn,nn,nn,nn,nn,nn,nn,nn,nn,nn,nn,nn,nn,nn,nn,nn,nn,nn,nn,nn,nn,nn,nn,nn,nn,nn,nn,nn,nn,nn,nn,nn,nn,nn] rfl rfl (by kernel_rfl) (fun _ _ _ h => h) (Or.inl ⟨by rfl,?_⟩) ?_ ?_
            rotate_left
            · intro w'
              go_simp
              with_reducible rfl
            rotate_left
            · simp only [NR]
              rfl
            refine pure_ (i:=1) (N:=some 152) (v:=?_) (a':=?_) #[yy,yy,nn,nn,nn,nn,nn,nn,nn,nn,nn,nn,nn,nn,nn,nn,nn,nn,nn,nn,nn,nn,nn,nn,nn,nn,nn,nn,nn,nn,nn,nn,nn,nn,nn] rfl rfl (by kernel_rfl) (fun _ _ _ h => h) (Or.inl ⟨by rfl,?_⟩) ?_ ?_
            rotate_left
            · intro w'
              go_simp
              with_reducible rfl
            rotate_left
            · simp only [NR]
              rfl
            refine pure_ (i:=2) (N:=some 153) (v:=?_) (a':=?_) #[yy,yy,yy,nn,nn,nn,nn,nn,nn,nn,nn,nn,nn,nn,nn,nn,nn,nn,nn,nn,nn,nn,nn,nn,nn,nn,nn,nn,nn,nn,nn,nn,nn,nn,nn] rfl rfl (by kernel_rfl) (fun _ _ _ h => h) (Or.inl ⟨by rfl,?_⟩) ?_ ?_
            rotate_left
            · intro w'
              go_simp
              with_reducible rfl
            rotate_left
            · simp only [NR]
              rfl
            refine pure_ (i:=3) (N:=some 154) (v:=?_) (a':=?_) #[yy,yy,yy,yy,nn,nn,nn,nn,nn,nn,nn,nn,nn,nn,nn,nn,nn,nn,nn,nn,nn,nn,nn,nn,nn,nn,nn,nn,nn,nn,nn,nn,nn,nn,nn] rfl rfl (by kernel_rfl) (fun _ _ _ h => h) (Or.inl ⟨by rfl,?_⟩) ?_ ?_
            rotate_left
            · intro w'
              go_simp
              with_reducible rfl
            rotate_left
            · simp only [NR]
              rfl
            refine pure_ (i:=4) (N:=some 155) (v:=?_) (a':=?_) #[yy,yy,yy,yy,yy,nn,nn,nn,nn,nn,nn,nn,nn,nn,nn,nn,nn,nn,nn,nn,nn,nn,nn,nn,nn,nn,nn,nn,nn,nn,nn,nn,nn,nn,nn] rfl rfl (by kernel_rfl) (fun _ _ _ h => h) (Or.inl ⟨by rfl,?_⟩) ?_ ?_
            rotate_left
            · intro w'
              go_simp
              with_reducible rfl
            rotate_left
            · simp only [NR]
              rfl
            refine pure_ (i:=5) (N:=some 156) (v:=?_) (a':=?_) #[yy,yy,yy,yy,yy,yy,nn,nn,nn,nn,nn,nn,nn,nn,nn,nn,nn,nn,nn,nn,nn,nn,nn,nn,nn,nn,nn,nn,nn,nn,nn,nn,nn,nn,nn] rfl rfl (by kernel_rfl) (fun _ _ _ h => h) (Or.inl ⟨by rfl,?_⟩) ?_ ?_
            rotate_left
            · intro w'
              go_simp
              with_reducible rfl
            rotate_left
            · simp only [NR]
              rfl
            refine pure_ (i:=7) (N:=some 158) (v:=?_) (a':=?_) #[yy,yy,yy,yy,yy,yy,nn,yy,nn,nn,nn,nn,nn,nn,nn,nn,nn,nn,nn,nn,nn,nn,nn,nn,nn,nn,nn,nn,nn,nn,nn,nn,nn,nn,nn] rfl rfl (by kernel_rfl) (fun _ _ _ h => h) (Or.inl ⟨by rfl,?_⟩) ?_ ?_
            rotate_left
            · intro w'
              go_simp
              with_reducible rfl
            rotate_left
            · simp only [NR]
              rfl
            refine pure_ (i:=8) (N:=some 159) (v:=?_) (a':=?_) #[yy,yy,yy,yy,yy,yy,nn,yy,yy,nn,nn,nn,nn,nn,nn,nn,nn,nn,nn,nn,nn,nn,nn,nn,nn,nn,nn,nn,nn,nn,nn,nn,nn,nn,nn] rfl rfl (by kernel_rfl) (fun _ _ _ h => h) (Or.inl ⟨by rfl,?_⟩) ?_ ?_
            rotate_left
            · intro w'
              go_simp
              with_reducible rfl
            rotate_left
            · simp only [NR]
              rfl
            refine pure_ (i:=9) (N:=some 160) (v:=?_) (a':=?_) #[yy,yy,yy,yy,yy,yy,nn,yy,yy,yy,nn,nn,nn,nn,nn,nn,nn,nn,nn,nn,nn,nn,nn,nn,nn,nn,nn,nn,nn,nn,nn,nn,nn,nn,nn] rfl rfl (by kernel_rfl) (fun _ _ _ h => h) (Or.inl ⟨by rfl,?_⟩) ?_ ?_
            rotate_left
            · intro w'
              go_simp
              with_reducible rfl
            rotate_left
            · simp only [NR]
              rfl
            refine take_ (i:=6) (N:=some 157) (v:=?_) (a':=?_) #[yy,yy,yy,yy,yy,yy,yy,yy,yy,yy,nn,nn,nn,nn,nn,nn,nn,nn,nn,nn,nn,nn,nn,nn,nn,nn,nn,nn,nn,nn,nn,nn,nn,nn,nn] rfl rfl (by kernel_rfl) (fun _ _ _ h => h) (Or.inl ⟨by rfl,?_⟩) hHeld ?_ ?_
            rotate_left
            · rintro w' ⟨s0,s1,s2,s3,s4,s5⟩
              go_simp
              with_reducible rfl
            rotate_left
            · simp only [NR]
              rfl
            refine take_ (i:=10) (N:=some 161) (v:=?_) (a':=?_) #[yy,yy,yy,yy,yy,yy,yy,yy,yy,yy,yy,nn,nn,nn,nn,nn,nn,nn,nn,nn,nn,nn,nn,nn,nn,nn,nn,nn,nn,nn,nn,nn,nn,nn,nn] rfl rfl (by kernel_rfl) (fun _ _ _ h => h) (Or.inl ⟨by rfl,?_⟩) hHeld ?_ ?_
            rotate_left
            · rintro w' ⟨s0,s1,s2,s3,s4,s5⟩
              go_simp
              with_reducible rfl
            rotate_left
            · simp only [NR]
              rfl
            refine pure_ (i:=11) (N:=some 162) (v:=?_) (a':=?_) #[yy,yy,yy,yy,yy,yy,yy,yy,yy,yy,yy,yy,nn,nn,nn,nn,nn,nn,nn,nn,nn,nn,nn,nn,nn,nn,nn,nn,nn,nn,nn,nn,nn,nn,nn] rfl rfl (by kernel_rfl) (fun _ _ _ h => h) (Or.inl ⟨by rfl,?_⟩) ?_ ?_
            rotate_left
            · intro w'
              go_simp
              with_reducible rfl
            rotate_left
            · simp only [NR]
              rfl
            refine pure_ (i:=12) (N:=some 163) (v:=?_) (a':=?_) #[yy,yy,yy,yy,yy,yy,yy,yy,yy,yy,yy,yy,yy,nn,nn,nn,nn,nn,nn,nn,nn,nn,nn,nn,nn,nn,nn,nn,nn,nn,nn,nn,nn,nn,nn] rfl rfl (by kernel_rfl) (fun _ _ _ h => h) (Or.inl ⟨by rfl,?_⟩) ?_ ?_
            rotate_left
            · intro w'
              go_simp
              with_reducible rfl
            rotate_left
            · simp only [NR]
              rfl
            refine pure_ (i:=13) (N:=some 164) (v:=?_) (a':=?_) #[yy,yy,yy,yy,yy,yy,yy,yy,yy,yy,yy,yy,yy,yy,nn,nn,nn,nn,nn,nn,nn,nn,nn,nn,nn,nn,nn,nn,nn,nn,nn,nn,nn,nn,nn] rfl rfl (by kernel_rfl) (fun _ _ _ h => h) (Or.inl ⟨by rfl,?_⟩) ?_ ?_
            rotate_left
            · intro w'
              go_simp
              with_reducible rfl
            rotate_left
            · simp only [NR]
              rfl
            refine pure_ (i:=14) (N:=some 165) (v:=?_) (a':=?_) #[yy,yy,yy,yy,yy,yy,yy,yy,yy,yy,yy,yy,yy,yy,yy,nn,nn,nn,nn,nn,nn,nn,nn,nn,nn,nn,nn,nn,nn,nn,nn,nn,nn,nn,nn] rfl rfl (by kernel_rfl) (fun _ _ _ h => h) (Or.inl ⟨by rfl,?_⟩) ?_ ?_
            rotate_left
            · intro w'
              go_simp
              with_reducible rfl
            rotate_left
            · simp only [NR]
              rfl
            refine pure_ (i:=15) (N:=some 166) (v:=?_) (a':=?_) #[yy,yy,yy,yy,yy,yy,yy,yy,yy,yy,yy,yy,yy,yy,yy,yy,nn,nn,nn,nn,nn,nn,nn,nn,nn,nn,nn,nn,nn,nn,nn,nn,nn,nn,nn] rfl rfl (by kernel_rfl) (fun _ _ _ h => h) (Or.inl ⟨by rfl,?_⟩) ?_ ?_
            rotate_left
            · intro w'
              go_simp
              with_reducible rfl
            rotate_left
            · simp only [NR]
              rfl
            refine pure_ (i:=17) (N:=some 168) (v:=?_) (a':=?_) #[yy,yy,yy,yy,yy,yy,yy,yy,yy,yy,yy,yy,yy,yy,yy,yy,nn,yy,nn,nn,nn,nn,nn,nn,nn,nn,nn,nn,nn,nn,nn,nn,nn,nn,nn] rfl rfl (by kernel_rfl) (fun _ _ _ h => h) (Or.inl ⟨by rfl,?_⟩) ?_ ?_
            rotate_left
            · intro w'
              go_simp
              with_reducible rfl
            rotate_left
            · simp only [NR]
              rfl
            refine pure_ (i:=18) (N:=some 169) (v:=?_) (a':=?_) #[yy,yy,yy,yy,yy,yy,yy,yy,yy,yy,yy,yy,yy,yy,yy,yy,nn,yy,yy,nn,nn,nn,nn,nn,nn,nn,nn,nn,nn,nn,nn,nn,nn,nn,nn] rfl rfl (by kernel_rfl) (fun _ _ _ h => h) (Or.inl ⟨by rfl,?_⟩) ?_ ?_
            rotate_left
            · intro w'
              go_simp
              with_reducible rfl
            rotate_left
            · simp only [NR]
              rfl
            refine pure_ (i:=19) (N:=some 170) (v:=?_) (a':=?_) #[yy,yy,yy,yy,yy,yy,yy,yy,yy,yy,yy,yy,yy,yy,yy,yy,nn,yy,yy,yy,nn,nn,nn,nn,nn,nn,nn,nn,nn,nn,nn,nn,nn,nn,nn] rfl rfl (by kernel_rfl) (fun _ _ _ h => h) (Or.inl ⟨by rfl,?_⟩) ?_ ?_
            rotate_left
            · intro w'
              go_simp
              with_reducible rfl
            rotate_left
            · simp only [NR]
              rfl
            refine pure_ (i:=22) (N:=some 173) (v:=?_) (a':=?_) #[yy,yy,yy,yy,yy,yy,yy,yy,yy,yy,yy,yy,yy,yy,yy,yy,nn,yy,yy,yy,nn,nn,yy,nn,nn,nn,nn,nn,nn,nn,nn,nn,nn,nn,nn] rfl rfl (by kernel_rfl) (fun _ _ _ h => h) (Or.inl ⟨by rfl,?_⟩) ?_ ?_
            rotate_left
            · intro w'
              go_simp
              with_reducible rfl
            rotate_left
            · simp only [NR]
              rfl
            refine pure_ (i:=23) (N:=some 174) (v:=?_) (a':=?_) #[yy,yy,yy,yy,yy,yy,yy,yy,yy,yy,yy,yy,yy,yy,yy,yy,nn,yy,yy,yy,nn,nn,yy,yy,nn,nn,nn,nn,nn,nn,nn,nn,nn,nn,nn] rfl rfl (by kernel_rfl) (fun _ _ _ h => h) (Or.inl ⟨by rfl,?_⟩) ?_ ?_
            rotate_left
            · intro w'
              go_simp
              with_reducible rfl
            rotate_left
            · simp only [NR]
              rfl
            refine pure_ (i:=24) (N:=some 175) (v:=?_) (a':=?_) #[yy,yy,yy,yy,yy,yy,yy,yy,yy,yy,yy,yy,yy,yy,yy,yy,nn,yy,yy,yy,nn,nn,yy,yy,yy,nn,nn,nn,nn,nn,nn,nn,nn,nn,nn] rfl rfl (by kernel_rfl) (fun _ _ _ h => h) (Or.inl ⟨by rfl,?_⟩) ?_ ?_
            rotate_left
            · intro w'
              go_simp
              with_reducible rfl
            rotate_left
            · simp only [NR]
              rfl
            refine pure_ (i:=26) (N:=some 177) (v:=?_) (a':=?_) #[yy,yy,yy,yy,yy,yy,yy,yy,yy,yy,yy,yy,yy,yy,yy,yy,nn,yy,yy,yy,nn,nn,yy,yy,yy,nn,yy,nn,nn,nn,nn,nn,nn,nn,nn] rfl rfl (by kernel_rfl) (fun _ _ _ h => h) (Or.inl ⟨by rfl,?_⟩) ?_ ?_
            rotate_left
            · intro w'
              go_simp
              with_reducible rfl
            rotate_left
            · simp only [NR]
              rfl
            refine pure_ (i:=27) (N:=some 178) (v:=?_) (a':=?_) #[yy,yy,yy,yy,yy,yy,yy,yy,yy,yy,yy,yy,yy,yy,yy,yy,nn,yy,yy,yy,nn,nn,yy,yy,yy,nn,yy,yy,nn,nn,nn,nn,nn,nn,nn] rfl rfl (by kernel_rfl) (fun _ _ _ h => h) (Or.inl ⟨by rfl,?_⟩) ?_ ?_
            rotate_left
            · intro w'
              go_simp
              with_reducible rfl
            rotate_left
            · simp only [NR]
              rfl
            refine pure_ (i:=28) (N:=some 179) (v:=?_) (a':=?_) #[yy,yy,yy,yy,yy,yy,yy,yy,yy,yy,yy,yy,yy,yy,yy,yy,nn,yy,yy,yy,nn,nn,yy,yy,yy,nn,yy,yy,yy,nn,nn,nn,nn,nn,nn] rfl rfl (by kernel_rfl) (fun _ _ _ h => h) (Or.inl ⟨by rfl,?_⟩) ?_ ?_
            rotate_left
            · intro w'
              go_simp
              with_reducible rfl
            rotate_left
            · simp only [NR]
              rfl
            refine take_ (i:=16) (N:=some 167) (v:=?_) (a':=?_) #[yy,yy,yy,yy,yy,yy,yy,yy,yy,yy,yy,yy,yy,yy,yy,yy,yy,yy,yy,yy,nn,nn,yy,yy,yy,nn,yy,yy,yy,nn,nn,nn,nn,nn,nn] rfl rfl (by kernel_rfl) (fun _ _ _ h => h) (Or.inl ⟨by rfl,?_⟩) hHeld ?_ ?_
            rotate_left
            · rintro w' ⟨s0,s1,s2,s3,s4,s5⟩
              go_simp
              with_reducible rfl
            rotate_left
            · simp only [NR]
              rfl
            refine take_ (i:=20) (N:=some 171) (v:=?_) (a':=?_) #[yy,yy,yy,yy,yy,yy,yy,yy,yy,yy,yy,yy,yy,yy,yy,yy,yy,yy,yy,yy,yy,nn,yy,yy,yy,nn,yy,yy,yy,nn,nn,nn,nn,nn,nn] rfl rfl (by kernel_rfl) (fun _ _ _ h => h) (Or.inl ⟨by rfl,?_⟩) hHeld ?_ ?_
            rotate_left
            · rintro w' ⟨s0,s1,s2,s3,s4,s5⟩
              go_simp
              with_reducible rfl
            rotate_left
            · simp only [NR]
              rfl
            refine take_ (i:=25) (N:=some 176) (v:=?_) (a':=?_) #[yy,yy,yy,yy,yy,yy,yy,yy,yy,yy,yy,yy,yy,yy,yy,yy,yy,yy,yy,yy,yy,nn,yy,yy,yy,yy,yy,yy,yy,nn,nn,nn,nn,nn,nn] rfl rfl (by kernel_rfl) (fun _ _ _ h => h) (Or.inl ⟨by rfl,?_⟩) hHeld ?_ ?_
            rotate_left
            · rintro w' ⟨s0,s1,s2,s3,s4,s5⟩
              go_simp
              with_reducible rfl
            rotate_left
            · simp only [NR]
              rfl
            refine take_ (i:=29) (N:=some 180) (v:=?_) (a':=?_) #[yy,yy,yy,yy,yy,yy,yy,yy,yy,yy,yy,yy,yy,yy,yy,yy,yy,yy,yy,yy,yy,nn,yy,yy,yy,yy,yy,yy,yy,yy,nn,nn,nn,nn,nn] rfl rfl (by kernel_rfl) (fun _ _ _ h => h) (Or.inl ⟨by rfl,?_⟩) hHeld ?_ ?_
            rotate_left
            · rintro w' ⟨s0,s1,s2,s3,s4,s5⟩
              go_simp
              with_reducible rfl
            rotate_left
            · simp only [NR]
              rfl
            refine one_ (i:=21) (N:=some 172) #[yy,yy,yy,yy,yy,yy,yy,yy,yy,yy,yy,yy,yy,yy,yy,yy,yy,yy,yy,yy,yy,yy,yy,yy,yy,yy,yy,yy,yy,yy,nn,nn,nn,nn,nn] rfl rfl (by kernel_rfl) (by decide) (fun K hK => ?_)
            refine goes_ Tryd.func12 (by kernel_rfl) rfl #[.int .u64 x,.int .u64 yp] (by rfl) rfl rfl (by simp only [List.map_toArray,List.map_cons,List.map_nil];try rfl) ?_
            with_reducible refine ((rmul_calls _ _ _ HUX.out HUYP.out)).mono ?_
            rintro e w31 ⟨rfl,hg⟩
            refine ⟨_,rfl,?_⟩
            have HH1:=Aside0.mk hg
            refine hK.out _ _ ⟨hg.cell hHeld.1 (by simp),hg.cell hHeld.2.1 (by simp),hg.cell hHeld.2.2.1 (by simp),hg.cell hHeld.2.2.2.1 (by simp),hg.cell hHeld.2.2.2.2.1 (by simp),hg.cell hHeld.2.2.2.2.2 (by simp)⟩ (fun hHeld => ?_)
            clear hK K
            refine norm_ (a':=?_) ?_ ?_
            rotate_left
            · show Act.put _ (some 172) _ = _
              simp only [NR]
              rfl
            refine one_ (i:=30) (N:=some 181) #[yy,yy,yy,yy,yy,yy,yy,yy,yy,yy,yy,yy,yy,yy,yy,yy,yy,yy,yy,yy,yy,yy,yy,yy,yy,yy,yy,yy,yy,yy,yy,nn,nn,nn,nn] rfl rfl (by kernel_rfl) (by decide) (fun K hK => ?_)
            refine goes_ Tryd.func12 (by kernel_rfl) rfl #[.int .u64 xp,.int .u64 y] (by rfl) rfl rfl (by simp only [List.map_toArray,List.map_cons,List.map_nil];try rfl) ?_
            with_reducible refine ((rmul_calls _ _ _ HUXP.out HUY.out)).mono ?_
            rintro e w32 ⟨rfl,hg⟩
            refine ⟨_,rfl,?_⟩
            have HH2:=Aside0.mk hg
            refine hK.out _ _ ⟨hg.cell hHeld.1 (by simp),hg.cell hHeld.2.1 (by simp),hg.cell hHeld.2.2.1 (by simp),hg.cell hHeld.2.2.2.1 (by simp),hg.cell hHeld.2.2.2.2.1 (by simp),hg.cell hHeld.2.2.2.2.2 (by simp)⟩ (fun hHeld => ?_)
            clear hK K
            refine norm_ (a':=?_) ?_ ?_
            rotate_left
            · show Act.put _ (some 181) _ = _
              simp only [NR]
              rfl
            refine one_ (i:=31) (N:=some 182) #[yy,yy,yy,yy,yy,yy,yy,yy,yy,yy,yy,yy,yy,yy,yy,yy,yy,yy,yy,yy,yy,yy,yy,yy,yy,yy,yy,yy,yy,yy,yy,yy,nn,nn,nn] rfl rfl (by kernel_rfl) (by decide) (fun K hK => ?_)
            refine goes_ Tryd.func11 (by kernel_rfl) rfl #[.agg #[.int .u64 (x * yp / 18446744073709551616),.int .u64 (x * yp % 18446744073709551616)],.agg #[.int .u64 (xp * y / 18446744073709551616),.int .u64 (xp * y % 18446744073709551616)]] (by rfl) rfl rfl (by simp only [List.map_toArray,List.map_cons,List.map_nil];try rfl) ?_
            with_reducible refine ((rcmp_calls _ _ _ _ _ HUX.out HUYP.out HUXP.out HUY.out)).mono ?_
            rintro e w33 ⟨rfl,hg⟩
            refine ⟨_,rfl,?_⟩
            have HH3:=Aside0.mk hg;rw [← HCM.out]
            refine hK.out _ _ ⟨hg.cell hHeld.1 (by simp),hg.cell hHeld.2.1 (by simp),hg.cell hHeld.2.2.1 (by simp),hg.cell hHeld.2.2.2.1 (by simp),hg.cell hHeld.2.2.2.2.1 (by simp),hg.cell hHeld.2.2.2.2.2 (by simp)⟩ (fun hHeld => ?_)
            clear hK K
            refine norm_ (a':=?_) ?_ ?_
            rotate_left
            · show Act.put _ (some 182) _ = _
              simp only [NR]
              rfl
            refine pure_ (i:=32) (N:=some 183) (v:=?_) (a':=?_) #[yy,yy,yy,yy,yy,yy,yy,yy,yy,yy,yy,yy,yy,yy,yy,yy,yy,yy,yy,yy,yy,yy,yy,yy,yy,yy,yy,yy,yy,yy,yy,yy,yy,nn,nn] rfl rfl (by kernel_rfl) (fun _ _ _ h => h) (Or.inl ⟨by rfl,?_⟩) ?_ ?_
            rotate_left
            · intro w'
              go_simp
              with_reducible rfl
            rotate_left
            · simp only [NR]
              rfl
            refine pure_ (i:=33) (N:=some 184) (v:=?_) (a':=?_) #[yy,yy,yy,yy,yy,yy,yy,yy,yy,yy,yy,yy,yy,yy,yy,yy,yy,yy,yy,yy,yy,yy,yy,yy,yy,yy,yy,yy,yy,yy,yy,yy,yy,yy,nn] rfl rfl (by kernel_rfl) (fun _ _ _ h => h) (Or.inl ⟨by rfl,?_⟩) ?_ ?_
            rotate_left
            · intro w'
              go_simp
              with_reducible rfl
            rotate_left
            · simp only [NR]
              rfl
            refine pure_ (i:=34) (N:=some 185) (v:=?_) (a':=?_) #[yy,yy,yy,yy,yy,yy,yy,yy,yy,yy,yy,yy,yy,yy,yy,yy,yy,yy,yy,yy,yy,yy,yy,yy,yy,yy,yy,yy,yy,yy,yy,yy,yy,yy,yy] rfl rfl (by kernel_rfl) (fun _ _ _ h => h) (Or.inl ⟨by rfl,?_⟩) ?_ ?_
            rotate_left
            · intro w'
              go_simp
              with_reducible rfl
            rotate_left
            · simp only [NR]
              rfl
            refine done_ (by kernel_rfl) ?_
            go_wp2_with fail
            go_roundg d
            case measure => omega
            case rel => exact ⟨j + 1,by go_num,⟨by have:=HD.out;omega⟩,by omega,⟨World.grownBy.trans HGq.out (World.grownBy.trans (gb_drew wq none) (World.grownBy.trans HH1.out (World.grownBy.trans HH2.out HH3.out)))⟩⟩
    · rcases hef with ⟨_,rfl⟩ | ⟨_,h,_⟩
      · skip
        have c0:=cell_of (j:=0) HX3.out rfl
        have c1:=cell_of (j:=1) HX3.out rfl
        have c2:=cell_of (j:=2) HX3.out rfl
        have c3:=cell_of (j:=3) HX3.out rfl
        have c4:=cell_of (j:=4) HX3.out rfl
        have c5:=cell_of (j:=5) HX3.out rfl
        have c6:=cell_of (j:=6) HX3.out rfl
        have c7:=cell_of (j:=7) HX3.out rfl
        go_wp2_with fail
        refine (HFA.out w3 (laid_gb HLW.out HG3.out) (HR.out.gb HG3.out)).mono ?_
        rintro e w4 ⟨hg,hfa⟩
        rcases hfa with ⟨_,rfl⟩ | ⟨_,h,_⟩
        · have HX4:=Am (blk_kept HX3.out hg (by simp))
          have HG4:=Am (World.grownBy.trans HG3.out hg)
          clear hg HX3 HG3 c0 c1 c2 c3 c4 c5 c6 c7
          go_wp2_with fail
          refine (HRL.out w4 (HR.out.gb HG4.out)).mono ?_
          rintro e w5 ⟨⟨o,rfl⟩,hg⟩
          have HX5:=Am (blk_kept HX4.out hg (by simp))
          have HG5:=Am (World.grownBy.trans HG4.out hg)
          rw [HE0.out]
          clear hg HX4 HG4 HRL
          have c0:=cell_of (j:=0) HX5.out rfl
          have c1:=cell_of (j:=1) HX5.out rfl
          have c2:=cell_of (j:=2) HX5.out rfl
          have c3:=cell_of (j:=3) HX5.out rfl
          have c4:=cell_of (j:=4) HX5.out rfl
          have c5:=cell_of (j:=5) HX5.out rfl
          have c6:=cell_of (j:=6) HX5.out rfl
          have c7:=cell_of (j:=7) HX5.out rfl
          go_wp2_with fail
          refine (HRC.out w5).mono ?_
          rintro e w6 ⟨rfl,hg⟩
          have HG6:=Am (World.grownBy.trans HG5.out hg)
          have b1 : (CC != 0) = true:=by simp [hC0]
          clear hg HX5 HG5 HRC c0 c1 c2 c3 c4 c5 c6 c7 hC0
          go_wp2
          go_ret
          exact ⟨rfl,HG6.out⟩
        · exact absurd h hC0
      · exact absurd h hC0
end Go.Proofs.YtbhijfbjdbjpbaaDoor.T
namespace Go.Proofs.YtbhijfbjdbjpbaaDoor.T
open Go.RowKit Go.Proofs.YtbhijfbjdbjpbaaDoorW.PrintWords Go.Proofs.YtbhijfbjdbjpbaaDoorW.PrintLast Go.Proofs.YtbhijfbjdbjpbaaDoor.H Go.Maps Go.Proofs.YtbhijfbjdbjpbaaDoor.Q Go.Proofs.YtbhijfbjdbjpbaaDoor.GSH
set_option linter.unusedVariables false
theorem Laws_all (w : World) (hL : LaidW w) (a0 : Int) (w0 : (Lit.int .i64 a0).wf = true) (a1 : Int) (w1 : (Lit.int .i64 a1).wf = true) (a2 : Int) (w2 : (Lit.int .i64 a2).wf = true) (a3 : Int) (w3 : (Lit.int .i64 a3).wf = true) (a4 : Int) (w4 : (Lit.int .i64 a4).wf = true) (a5 : Int) (w5 : (Lit.int .i64 a5).wf = true) (a6 : Int) (w6 : (Lit.int .i64 a6).wf = true) (a7 : Int) (w7 : (Lit.int .i64 a7).wf = true)
    (A : Option Addr) (n c : Nat) (ls : List Acc) (hr : Accs w A n ls) (hc : n ≤ c) (hs : n * 48 ≤ 140737488351232) (who : Int) (hw : (Lit.int .i64 who).wf = true) (more : Int) (hm : (Lit.int .u64 more).wf = true) :
    Calls Tryd.prog 3 #[.agg #[.int .i64 a0,.int .i64 a1,.int .i64 a2,.int .i64 a3,.int .i64 a4,.int .i64 a5,.int .i64 a6,.int .i64 a7],.slice A n c,.int .i64 who,.int .u64 more] w fun e w' => e = .returned (.bool true) ∧ Below w.heap.size w w':=
  (Laws_walk w hL a0 a1 a2 a3 a4 a5 a6 a7 A n c ls hr.1 hc hs hr.2.1 hr.2.2 who more hw (wf_u hm)).mono (fun e w' h => ⟨h.1,below_of_gb h.2⟩)
end Go.Proofs.YtbhijfbjdbjpbaaDoor.T
namespace Go.Proofs.YtbhijfbjdbjpbaaDoor.LaidKit
open Go.ChangeShapes Go.WideShapes Go.ChangeAt Go.RowKit Go.Proofs.YtbhijfbjdbjpbaaDoor.GSH Go.Proofs.YtbhijfbjdbjpbaaDoorW.PrintWords
abbrev laidL {H : Type} : List (String × DataW H):=[("backfill/ladder.rungs",Rows.laid_backfill_ladder_rungs)]
theorem own : ownKnob Tryd.prog.godebug = none:=by kernel_rfl
theorem gR : Tryd.prog.globalNamed "backfill/ladder.rungs" = some 0:=by kernel_rfl
theorem tR : (Tryd.prog.globals[0]?).map (·.type) = some 80:=by kernel_rfl
theorem door_met (os : Os) (args : Array Value) : laidMetH Tryd.prog laidL ((World.doorLaid Tryd.prog 14 os).forCall (fun _ _ => 0) ⟨#[],args,[]⟩).memory:=
  laidMetH_of_parts3 (fuel:=8) (laidMet_of_run' 8 (by kernel_rfl) (by kernel_rfl)) (by kernel_rfl) (by kernel_rfl)
set_option maxRecDepth 100000 in
theorem of_laid {W : World} (h : laidMetH Tryd.prog laidL W) : LaidW W:=by
  rw [MakeChecks.laidMetH_plain _ _ _ (by kernel_rfl)] at h
  obtain ⟨ps,⟨g0,t0,cs0,f0,p0,q0,hg0,ht0,hv0,hd0,_,_⟩,_⟩:=h
  obtain rfl:=Option.some.inj (gR.symm.trans hg0)
  obtain rfl:=Option.some.inj (tR.symm.trans ht0)
  obtain ⟨xs,m1,rfl,hx1,hlen,hn,hel⟩:=DataW.trod_array Tryd.underlying80 hd0
  have c1 : Tryd.prog.cellsOf 25 = 1:=by kernel_rfl
  simp only [Prod.mk.injEq] at hx1
  have hxs : xs.map (·.1) = rungsL.map (fun n => DataW.lit (.int .u64 n)):=by
    have:=hx1.1
    unfold Rows.laid_backfill_ladder_rungs at this
    injection this with this
    exact this.symm.trans rfl
  intro j hj
  have h1:=hel j hj
  rw [c1,Nat.mul_one] at h1
  have hxj : (xs[j]?).map (·.1) = some (DataW.lit (.int .u64 (rungsL.getD j 0))):=by
    rw [← List.getElem?_map,hxs,List.getElem?_map]
    have hlj : j < rungsL.length:=by show j < 32;exact hj
    simp [List.getElem?_eq_getElem hlj,List.getD_eq_getElem?_getD]
  cases hxe : xs[j]? with
  | none => rw [hxe] at hxj;cases hxj
  | some x =>
    rw [hxe] at hxj h1
    simp only [Option.map_some,Option.some.injEq] at hxj
    obtain ⟨n,e1,e2,_⟩:=DataW.trod_int Tryd.underlying25 h1
    rw [e2] at hxj
    have hnj : n = rungsL.getD j 0:=by simpa using hxj
    have hcell:=World.var?_cell hg0 hv0 j
    rw [hcell]
    have hg : cs0.toList[j]? = some (.int .u64 n):=by
      have:=congrArg (fun l => l[0]?) e1
      simpa [List.getElem?_take,List.getElem?_drop] using this
    rw [← Array.getElem?_toList,hg,hnj]
    unfold rd
    rw [Int.toNat_natCast]
end Go.Proofs.YtbhijfbjdbjpbaaDoor.LaidKit
