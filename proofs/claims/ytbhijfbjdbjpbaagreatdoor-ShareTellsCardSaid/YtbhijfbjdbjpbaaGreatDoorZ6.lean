/- The texts of this claim, put together by program, what it does not name left out: part 6. Conditions: each theorem's own. -/
import Derived.Test.YtbhijfbjdbjpbaaGreatDoorZ5
set_option maxHeartbeats 8000000
set_option maxRecDepth 100000
namespace Go.Proofs.YtbhijfbjdbjpbaaGreatDoor.GSH
open Go.RowKit Go.Proofs.YtbhijfbjdbjpbaaGreatDoorW.PrintWords Go.Proofs.YtbhijfbjdbjpbaaGreatDoorW.PrintLast Go.Proofs.YtbhijfbjdbjpbaaGreatDoorW.PrintMore
attribute [local go_sem] max2_int min2_int max_two min_two max_three min_three max_four min_four   -- for this text's walks alone
set_option linter.unusedVariables false
set_option linter.unusedSimpArgs false
def backfillref11_Check.f (k : Nat) (a0_0 : Int) (a0_1 : Int) (a0_2 : Int) (a0_3 : Int) (a0_4 : Int) (a0_5 : Int) (a0_6 : Int) (a0_7 : Int) : Option (Int):=(backfillref11_ranges.f k a0_0 a0_1 a0_2 a0_3 a0_4 a0_5 a0_6 a0_7).bind fun t354 => (if t354 = true then ((backfillref11_M.f a0_0 a0_1 a0_2 a0_3 a0_4 a0_5 a0_6 a0_7).bind fun t355 => (if t355 > 2147483648 then (some 111) else (if (wrap64 ((wrap64 ((wrap64 (a0_3 * 1099511627776)) + a0_4)) + (wrap64 (a0_5 * a0_0)))) ≥ 4611686018427387904 then (some 112) else ((backfillref11_off.f a0_0 a0_1 a0_2 a0_3 a0_4 a0_5 a0_6 a0_7).bind fun bt356 => ((backfillref01_Times.f bt356.1 bt356.2.1 1000).bind fun bt362 => ((backfillref11_bound.f a0_0 a0_1 a0_2 a0_3 a0_4 a0_5 a0_6 a0_7).bind fun t366 => ((backfillref01_Times.f bt356.2.2.1 bt356.2.2.2 (IntKind.u64.wrap (wrap64 ((wrap64 ((wrap64 (a0_3 * t366)) + a0_4)) + (wrap64 (a0_5 * a0_0)))))).bind fun bt367 => ((backfillref01_Cmp.f k bt362.1 bt362.2.1 bt367.1 bt367.2.1).bind fun t371 => (if t371 > 0 then (some 113) else (some 0)))))))))) else (some 110))
theorem backfillref11_Check.mono : ∀ a0 a1 a2 a3 a4 a5 a6 a7 k,LeO (backfillref11_Check.f k a0 a1 a2 a3 a4 a5 a6 a7) (backfillref11_Check.f (k + 1) a0 a1 a2 a3 a4 a5 a6 a7):=by
 intro a0 a1 a2 a3 a4 a5 a6 a7 k
 unfold backfillref11_Check.f
 repeat' first
   | (with_reducible exact backfillref01_Cmp.mono _ _ _ _ _)
   | (with_reducible exact backfillref11_ranges.mono _ _ _ _ _ _ _ _ _)
   | (with_reducible exact LeO.refl _)
   | (with_reducible exact LeO.none _)
   | (with_reducible refine LeO.ite ?_ ?_)
   | (with_reducible refine LeO.bind ?_ (fun _ => ?_))
   | exact backfillref01_Cmp.mono _ _ _ _ _
   | exact backfillref11_ranges.mono _ _ _ _ _ _ _ _ _
   | exact LeO.none _
   | refine LeO.ite ?_ ?_
   | refine LeO.bind ?_ (fun _ => ?_)
def backfillref11_Check.T9 : Bool × List (List Nat × List Nat):=(true,[([],[]),([],[]),([1],[1]),([],[]),([3],[3]),([2,4],[2,4]),([],[]),([6],[6]),([5,7],[5,7]),([],[]),([9],[9]),([],[]),([11],[11]),([10,12],[10,12]),([8,13],[8,13]),([14],[14]),([0,15,4],[0,15]),([16],[16]),([17],[17]),([17],[17]),([],[]),([20,18,16,0,1,2,3,4,5,6,7,8,9,10,11,12,13,14,15,16,17,18,20],[18,20]),([19,21,0,1,2,3,4,5,6,7,8,9,10,11,12,13,14,15,16,17,18,19,20,21],[19])])
def backfillref11_Check.B9 : List Nat:=[0,0,2,0,8,30,0,64,254,0,512,0,2048,7680,16382,32766,65535,131071,262143,262143,0,1572863,4194303]
theorem backfillref11_Check.tab9 : rtab .any (opsOf Tryz.f25 9) = backfillref11_Check.T9:=by kernel_rfl
theorem backfillref11_Check.bits9 : waitsOk backfillref11_Check.T9.2 backfillref11_Check.B9 = true:=by kernel_rfl
theorem backfillref11_Check.calls (k : Nat) (a0_0 : Int) (a0_1 : Int) (a0_2 : Int) (a0_3 : Int) (a0_4 : Int) (a0_5 : Int) (a0_6 : Int) (a0_7 : Int) (r : Int) (w : World) (h : backfillref11_Check.f k a0_0 a0_1 a0_2 a0_3 a0_4 a0_5 a0_6 a0_7 = some r) :
  Calls Tryz.prog 25 #[.agg #[.int .i64 a0_0,.int .i64 a0_1,.int .i64 a0_2,.int .i64 a0_3,.int .i64 a0_4,.int .i64 a0_5,.int .i64 a0_6,.int .i64 a0_7]] w fun e w' => e = .returned (.int .i64 r) ∧ Below w.heap.size w w':=by
 have hu23:=Tryz.underlying23
 have hu82:=Tryz.underlying82
 have HB:=Am (Below.refl w.heap.size w)
 have H : ((backfillref11_ranges.f k a0_0 a0_1 a0_2 a0_3 a0_4 a0_5 a0_6 a0_7).bind fun t354 => (if t354 = true then ((backfillref11_M.f a0_0 a0_1 a0_2 a0_3 a0_4 a0_5 a0_6 a0_7).bind fun t355 => (if t355 > 2147483648 then (some 111) else (if (wrap64 ((wrap64 ((wrap64 (a0_3 * 1099511627776)) + a0_4)) + (wrap64 (a0_5 * a0_0)))) ≥ 4611686018427387904 then (some 112) else ((backfillref11_off.f a0_0 a0_1 a0_2 a0_3 a0_4 a0_5 a0_6 a0_7).bind fun bt356 => ((backfillref01_Times.f bt356.1 bt356.2.1 1000).bind fun bt362 => ((backfillref11_bound.f a0_0 a0_1 a0_2 a0_3 a0_4 a0_5 a0_6 a0_7).bind fun t366 => ((backfillref01_Times.f bt356.2.2.1 bt356.2.2.2 (IntKind.u64.wrap (wrap64 ((wrap64 ((wrap64 (a0_3 * t366)) + a0_4)) + (wrap64 (a0_5 * a0_0)))))).bind fun bt367 => ((backfillref01_Cmp.f k bt362.1 bt362.2.1 bt367.1 bt367.2.1).bind fun t371 => (if t371 > 0 then (some 113) else (some 0)))))))))) else (some 110))) = some r:=h
 clear h;obtain ⟨t354,A2,H⟩:=bnd H;(try dsimp only at H)
 by_cases c3 : t354 = true
 ·subst c3
  have H1 : ((backfillref11_M.f a0_0 a0_1 a0_2 a0_3 a0_4 a0_5 a0_6 a0_7).bind fun t355 => (if t355 > 2147483648 then (some 111) else (if (wrap64 ((wrap64 ((wrap64 (a0_3 * 1099511627776)) + a0_4)) + (wrap64 (a0_5 * a0_0)))) ≥ 4611686018427387904 then (some 112) else ((backfillref11_off.f a0_0 a0_1 a0_2 a0_3 a0_4 a0_5 a0_6 a0_7).bind fun bt356 => ((backfillref01_Times.f bt356.1 bt356.2.1 1000).bind fun bt362 => ((backfillref11_bound.f a0_0 a0_1 a0_2 a0_3 a0_4 a0_5 a0_6 a0_7).bind fun t366 => ((backfillref01_Times.f bt356.2.2.1 bt356.2.2.2 (IntKind.u64.wrap (wrap64 ((wrap64 ((wrap64 (a0_3 * t366)) + a0_4)) + (wrap64 (a0_5 * a0_0)))))).bind fun bt367 => ((backfillref01_Cmp.f k bt362.1 bt362.2.1 bt367.1 bt367.2.1).bind fun t371 => (if t371 > 0 then (some 113) else (some 0)))))))))) = some r:=by rw [if_pos rfl] at H;exact H
  clear H
  have H:=H1
  clear H1;obtain ⟨t355,A4,H⟩:=bnd H;(try dsimp only at H)
  by_cases c5 : t355 > 2147483648
  ·rw [if_pos c5] at H
   have c5b0 : decide (2147483648 < t355) = true:=decide_eq_true c5
   clear c5
   obtain rfl:=Option.some.inj H
   go_enter Tryz.func25,Tryz.ntmps25
   go_wp2_with (first | ((with_reducible refine gate_dst (N:=1) rfl ?_);refine bxA 1 #[.int .i64 a0_0,.int .i64 a0_1,.int .i64 a0_2,.int .i64 a0_3,.int .i64 a0_4,.int .i64 a0_5,.int .i64 a0_6,.int .i64 a0_7] 23 ?_;intro gb353 hg w6 hbox hb;have BK353:=Am (hbox);have GW353:=Am (gwA hg bA);have GE353:=Am (gwA hg bA);replace HB:=Am (below_step bA hb);clear hb hbox hg;obtain ⟨hcz7_0,hcz7_1,hcz7_2,hcz7_3,hcz7_4,hcz7_5,hcz7_6,hcz7_7,hfz7_0,hfz7_1,hfz7_2,hfz7_3,hfz7_4,hfz7_5,hfz7_6,hfz7_7⟩:=k8 BK353.out) | ((with_reducible refine gate_callee (f:=47) rfl ?_);refine goesL_ (some 10) rfl rfl Tryz.func47 (by kernel_rfl) rfl #[.agg #[.int .i64 a0_0,.int .i64 a0_1,.int .i64 a0_2,.int .i64 a0_3,.int .i64 a0_4,.int .i64 a0_5,.int .i64 a0_6,.int .i64 a0_7]] rfl aA ?_;(with_reducible refine (backfillref11_ranges.calls k a0_0 a0_1 a0_2 a0_3 a0_4 a0_5 a0_6 a0_7 true _ A2.out).mono ?_);rintro e w8 ⟨rfl,hb⟩;refine ⟨_,rfl,?_⟩;replace BK353:=Am (blk_below (g:=gb353) kA hb);replace HB:=Am (below_step bA hb);(try clear hb);obtain ⟨hcz9_0,hcz9_1,hcz9_2,hcz9_3,hcz9_4,hcz9_5,hcz9_6,hcz9_7,hfz9_0,hfz9_1,hfz9_2,hfz9_3,hfz9_4,hfz9_5,hfz9_6,hfz9_7⟩:=k8 BK353.out) | ((with_reducible refine gate_callee (f:=48) rfl ?_);refine goesL_ (some 13) rfl rfl Tryz.func48 (by kernel_rfl) rfl #[.agg #[.int .i64 a0_0,.int .i64 a0_1,.int .i64 a0_2,.int .i64 a0_3,.int .i64 a0_4,.int .i64 a0_5,.int .i64 a0_6,.int .i64 a0_7]] rfl aA ?_;(with_reducible refine (backfillref11_M.calls a0_0 a0_1 a0_2 a0_3 a0_4 a0_5 a0_6 a0_7 t355 _ A4.out).mono ?_);rintro e w10 ⟨rfl,hb⟩;refine ⟨_,rfl,?_⟩;replace BK353:=Am (blk_below (g:=gb353) kA hb);replace HB:=Am (below_step bA hb);(try clear hb)))
   go_ret
   exact eA
  ·rw [if_neg c5] at H
   have c5b0 : decide (2147483648 < t355) = false:=decide_eq_false c5
   clear c5
   by_cases c11 : (wrap64 ((wrap64 ((wrap64 (a0_3 * 1099511627776)) + a0_4)) + (wrap64 (a0_5 * a0_0)))) ≥ 4611686018427387904
   ·rw [if_pos c11] at H
    have c11b0 : decide (4611686018427387904 ≤ (wrap64 ((wrap64 ((wrap64 (a0_3 * 1099511627776)) + a0_4)) + (wrap64 (a0_5 * a0_0))))) = true:=decide_eq_true c11
    clear c11
    obtain rfl:=Option.some.inj H
    go_enter Tryz.func25,Tryz.ntmps25
    go_wp2_with (first | ((with_reducible refine gate_dst (N:=1) rfl ?_);refine bxA 1 #[.int .i64 a0_0,.int .i64 a0_1,.int .i64 a0_2,.int .i64 a0_3,.int .i64 a0_4,.int .i64 a0_5,.int .i64 a0_6,.int .i64 a0_7] 23 ?_;intro gb353 hg w12 hbox hb;have BK353:=Am (hbox);have GW353:=Am (gwA hg bA);have GE353:=Am (gwA hg bA);replace HB:=Am (below_step bA hb);clear hb hbox hg;obtain ⟨hcz13_0,hcz13_1,hcz13_2,hcz13_3,hcz13_4,hcz13_5,hcz13_6,hcz13_7,hfz13_0,hfz13_1,hfz13_2,hfz13_3,hfz13_4,hfz13_5,hfz13_6,hfz13_7⟩:=k8 BK353.out) | ((with_reducible refine gate_callee (f:=47) rfl ?_);refine goesL_ (some 10) rfl rfl Tryz.func47 (by kernel_rfl) rfl #[.agg #[.int .i64 a0_0,.int .i64 a0_1,.int .i64 a0_2,.int .i64 a0_3,.int .i64 a0_4,.int .i64 a0_5,.int .i64 a0_6,.int .i64 a0_7]] rfl aA ?_;(with_reducible refine (backfillref11_ranges.calls k a0_0 a0_1 a0_2 a0_3 a0_4 a0_5 a0_6 a0_7 true _ A2.out).mono ?_);rintro e w14 ⟨rfl,hb⟩;refine ⟨_,rfl,?_⟩;replace BK353:=Am (blk_below (g:=gb353) kA hb);replace HB:=Am (below_step bA hb);(try clear hb);obtain ⟨hcz15_0,hcz15_1,hcz15_2,hcz15_3,hcz15_4,hcz15_5,hcz15_6,hcz15_7,hfz15_0,hfz15_1,hfz15_2,hfz15_3,hfz15_4,hfz15_5,hfz15_6,hfz15_7⟩:=k8 BK353.out) | ((with_reducible refine gate_callee (f:=48) rfl ?_);refine goesL_ (some 13) rfl rfl Tryz.func48 (by kernel_rfl) rfl #[.agg #[.int .i64 a0_0,.int .i64 a0_1,.int .i64 a0_2,.int .i64 a0_3,.int .i64 a0_4,.int .i64 a0_5,.int .i64 a0_6,.int .i64 a0_7]] rfl aA ?_;(with_reducible refine (backfillref11_M.calls a0_0 a0_1 a0_2 a0_3 a0_4 a0_5 a0_6 a0_7 t355 _ A4.out).mono ?_);rintro e w16 ⟨rfl,hb⟩;refine ⟨_,rfl,?_⟩;replace BK353:=Am (blk_below (g:=gb353) kA hb);replace HB:=Am (below_step bA hb);(try clear hb);obtain ⟨hcz17_0,hcz17_1,hcz17_2,hcz17_3,hcz17_4,hcz17_5,hcz17_6,hcz17_7,hfz17_0,hfz17_1,hfz17_2,hfz17_3,hfz17_4,hfz17_5,hfz17_6,hfz17_7⟩:=k8 BK353.out))
    go_ret
    exact eA
   ·rw [if_neg c11] at H
    have c11b0 : decide (4611686018427387904 ≤ (wrap64 ((wrap64 ((wrap64 (a0_3 * 1099511627776)) + a0_4)) + (wrap64 (a0_5 * a0_0))))) = false:=decide_eq_false c11
    clear c11;obtain ⟨⟨t356,t357,t358,t359⟩,A18,H⟩:=bnd H;(try dsimp only at H);obtain ⟨⟨t362,t363,t364⟩,A19,H⟩:=bnd H;(try dsimp only at H);obtain ⟨t366,A20,H⟩:=bnd H;(try dsimp only at H);obtain ⟨⟨t367,t368,t369⟩,A21,H⟩:=bnd H;(try dsimp only at H);obtain ⟨t371,A22,H⟩:=bnd H;(try dsimp only at H)
    go_enter Tryz.func25,Tryz.ntmps25
    try go_wp2_with (first | ((with_reducible refine gate_dst (N:=1) rfl ?_);refine bxA 1 #[.int .i64 a0_0,.int .i64 a0_1,.int .i64 a0_2,.int .i64 a0_3,.int .i64 a0_4,.int .i64 a0_5,.int .i64 a0_6,.int .i64 a0_7] 23 ?_;intro gb353 hg w24 hbox hb;have BK353:=Am (hbox);have GW353:=Am (gwA hg bA);have GE353:=Am (gwA hg bA);replace HB:=Am (below_step bA hb);clear hb hbox hg;obtain ⟨hcz25_0,hcz25_1,hcz25_2,hcz25_3,hcz25_4,hcz25_5,hcz25_6,hcz25_7,hfz25_0,hfz25_1,hfz25_2,hfz25_3,hfz25_4,hfz25_5,hfz25_6,hfz25_7⟩:=k8 BK353.out) | ((with_reducible refine gate_callee (f:=47) rfl ?_);refine goesL_ (some 10) rfl rfl Tryz.func47 (by kernel_rfl) rfl #[.agg #[.int .i64 a0_0,.int .i64 a0_1,.int .i64 a0_2,.int .i64 a0_3,.int .i64 a0_4,.int .i64 a0_5,.int .i64 a0_6,.int .i64 a0_7]] rfl aA ?_;(with_reducible refine (backfillref11_ranges.calls k a0_0 a0_1 a0_2 a0_3 a0_4 a0_5 a0_6 a0_7 true _ A2.out).mono ?_);rintro e w26 ⟨rfl,hb⟩;refine ⟨_,rfl,?_⟩;replace BK353:=Am (blk_below (g:=gb353) kA hb);replace HB:=Am (below_step bA hb);(try clear hb);obtain ⟨hcz27_0,hcz27_1,hcz27_2,hcz27_3,hcz27_4,hcz27_5,hcz27_6,hcz27_7,hfz27_0,hfz27_1,hfz27_2,hfz27_3,hfz27_4,hfz27_5,hfz27_6,hfz27_7⟩:=k8 BK353.out) | ((with_reducible refine gate_callee (f:=48) rfl ?_);refine goesL_ (some 13) rfl rfl Tryz.func48 (by kernel_rfl) rfl #[.agg #[.int .i64 a0_0,.int .i64 a0_1,.int .i64 a0_2,.int .i64 a0_3,.int .i64 a0_4,.int .i64 a0_5,.int .i64 a0_6,.int .i64 a0_7]] rfl aA ?_;(with_reducible refine (backfillref11_M.calls a0_0 a0_1 a0_2 a0_3 a0_4 a0_5 a0_6 a0_7 t355 _ A4.out).mono ?_);rintro e w28 ⟨rfl,hb⟩;refine ⟨_,rfl,?_⟩;replace BK353:=Am (blk_below (g:=gb353) kA hb);replace HB:=Am (below_step bA hb);(try clear hb);obtain ⟨hcz29_0,hcz29_1,hcz29_2,hcz29_3,hcz29_4,hcz29_5,hcz29_6,hcz29_7,hfz29_0,hfz29_1,hfz29_2,hfz29_3,hfz29_4,hfz29_5,hfz29_6,hfz29_7⟩:=k8 BK353.out) | ((with_reducible refine gate_callee (f:=49) rfl ?_);refine goesL_ (some 30) rfl rfl Tryz.func49 (by kernel_rfl) rfl #[.agg #[.int .i64 a0_0,.int .i64 a0_1,.int .i64 a0_2,.int .i64 a0_3,.int .i64 a0_4,.int .i64 a0_5,.int .i64 a0_6,.int .i64 a0_7]] rfl aA ?_;(with_reducible refine (backfillref11_off.calls a0_0 a0_1 a0_2 a0_3 a0_4 a0_5 a0_6 a0_7 t356 t357 t358 t359 _ A18.out).mono ?_);rintro e w30 ⟨rfl,hb⟩;refine ⟨_,rfl,?_⟩;replace BK353:=Am (blk_below (g:=gb353) kA hb);replace HB:=Am (below_step bA hb);(try clear hb)) | ((with_reducible refine gate_dst (N:=3) rfl ?_);refine bxA 3 #[.int .u64 0,.int .u64 0] 82 ?_;intro gb360 hg w31 hbox hb;have BK360:=Am (hbox);have GW360:=Am (gwA hg bA);have GE360:=Am (gwA hg bA);have NB353_360:=Am (neA (g:=gb353) hg kA);have NB360_353:=Am (neB (g:=gb353) hg kA);replace BK353:=Am (blk_below (g:=gb353) kA hb);replace HB:=Am (below_step bA hb);clear hb hbox hg) | ((with_reducible refine gate_dst (N:=4) rfl ?_);refine bxA 4 #[.int .u64 0,.int .u64 0] 82 ?_;intro gb361 hg w32 hbox hb;have BK361:=Am (hbox);have GW361:=Am (gwA hg bA);have GE361:=Am (gwA hg bA);have NB353_361:=Am (neA (g:=gb353) hg kA);have NB361_353:=Am (neB (g:=gb353) hg kA);have NB360_361:=Am (neA (g:=gb360) hg kA);have NB361_360:=Am (neB (g:=gb360) hg kA);replace BK353:=Am (blk_below (g:=gb353) kA hb);replace BK360:=Am (blk_below (g:=gb360) kA hb);replace HB:=Am (below_step bA hb);clear hb hbox hg;have hnb33:=NB360_353.out;have hnc33:=NB353_360.out;have hnb34:=NB360_361.out;have hnc34:=NB361_360.out;obtain ⟨hcz35_0,hcz35_1,hfz35_0,hfz35_1⟩:=k2 BK360.out;have hnb36:=NB361_353.out;have hnc36:=NB353_361.out;obtain ⟨hcz37_0,hcz37_1,hfz37_0,hfz37_1⟩:=k2 BK361.out) | ((with_reducible refine gate_callee (f:=50) rfl ?_);refine goesL_ (some 35) rfl rfl Tryz.func50 (by kernel_rfl) rfl #[.agg #[.int .u64 t356,.int .u64 t357],.int .u64 1000] rfl aA ?_;(with_reducible refine (backfillref01_Times.calls t356 t357 1000 t362 t363 t364 _ A19.out).mono ?_);rintro e w38 ⟨rfl,hb⟩;refine ⟨_,rfl,?_⟩;replace BK353:=Am (blk_below (g:=gb353) (o:=.cells #[.int .i64 a0_0,.int .i64 a0_1,.int .i64 a0_2,.int .i64 a0_3,.int .i64 a0_4,.int .i64 a0_5,.int .i64 a0_6,.int .i64 a0_7] 23 (0,0)) kF hb);replace BK360:=Am (blk_below (g:=gb360) (o:=.cells #[.int .u64 t356,.int .u64 t357] 82 (0,0)) (by (with_reducible repeat (first | refine b1 ?_ _ | refine b2 ?_ | refine b3 ?_ _));refine blk_far ?_ NB360_361.out _;(with_reducible repeat (first | refine b1 ?_ _ | refine b2 ?_ | refine b3 ?_ _));refine blk_far ?_ NB360_361.out _;(with_reducible repeat (first | refine b1 ?_ _ | refine b2 ?_ | refine b3 ?_ _));refine blk_put (cs:=#[.int .u64 t356,.int .u64 0]) ?_ 1 _ rfl;(with_reducible repeat (first | refine b1 ?_ _ | refine b2 ?_ | refine b3 ?_ _));refine blk_put (cs:=#[.int .u64 0,.int .u64 0]) ?_ 0 _ rfl;exact kA) hb);replace BK361:=Am (blk_below (g:=gb361) (o:=.cells #[.int .u64 t358,.int .u64 t359] 82 (0,0)) (by (with_reducible repeat (first | refine b1 ?_ _ | refine b2 ?_ | refine b3 ?_ _));refine blk_put (cs:=#[.int .u64 t358,.int .u64 0]) ?_ 1 _ rfl;(with_reducible repeat (first | refine b1 ?_ _ | refine b2 ?_ | refine b3 ?_ _));refine blk_put (cs:=#[.int .u64 0,.int .u64 0]) ?_ 0 _ rfl;(with_reducible repeat (first | refine b1 ?_ _ | refine b2 ?_ | refine b3 ?_ _));refine blk_far ?_ NB361_360.out _;(with_reducible repeat (first | refine b1 ?_ _ | refine b2 ?_ | refine b3 ?_ _));refine blk_far ?_ NB361_360.out _;exact kA) hb);replace HB:=Am (below_step bA hb);(try clear hb)) | ((with_reducible refine gate_dst (N:=5) rfl ?_);refine bxA 5 #[.int .u64 0,.int .u64 0] 82 ?_;intro gb365 hg w39 hbox hb;have BK365:=Am (hbox);have GW365:=Am (gwA hg bA);have GE365:=Am (gwA hg bA);have NB353_365:=Am (neA (g:=gb353) hg kA);have NB365_353:=Am (neB (g:=gb353) hg kA);have NB360_365:=Am (neA (g:=gb360) hg kA);have NB365_360:=Am (neB (g:=gb360) hg kA);have NB361_365:=Am (neA (g:=gb361) hg kA);have NB365_361:=Am (neB (g:=gb361) hg kA);replace BK353:=Am (blk_below (g:=gb353) kA hb);replace BK360:=Am (blk_below (g:=gb360) kA hb);replace BK361:=Am (blk_below (g:=gb361) kA hb);replace HB:=Am (below_step bA hb);clear hb hbox hg;have hnb40:=NB365_353.out;have hnc40:=NB353_365.out;have hnb41:=NB365_360.out;have hnc41:=NB360_365.out;have hnb42:=NB365_361.out;have hnc42:=NB361_365.out;obtain ⟨hcz43_0,hcz43_1,hfz43_0,hfz43_1⟩:=k2 BK365.out))
    have n0_ : Aside0 (((w39.setCell ⟨gb365,0,none⟩ (.int .u64 t362)).setCell ⟨gb365,1,none⟩ (.int .u64 t363)).heap[gb353]? = some (.cells #[.int .i64 a0_0,.int .i64 a0_1,.int .i64 a0_2,.int .i64 a0_3,.int .i64 a0_4,.int .i64 a0_5,.int .i64 a0_6,.int .i64 a0_7] 23 (0,0))):=⟨kF⟩
    have n1_ : Aside0 (((w39.setCell ⟨gb365,0,none⟩ (.int .u64 t362)).setCell ⟨gb365,1,none⟩ (.int .u64 t363)).heap[gb360]? = some (.cells #[.int .u64 t356,.int .u64 t357] 82 (0,0))):=⟨kF⟩
    have n2_ : Aside0 (((w39.setCell ⟨gb365,0,none⟩ (.int .u64 t362)).setCell ⟨gb365,1,none⟩ (.int .u64 t363)).heap[gb361]? = some (.cells #[.int .u64 t358,.int .u64 t359] 82 (0,0))):=⟨kF⟩
    have n3_ : Aside0 (((w39.setCell ⟨gb365,0,none⟩ (.int .u64 t362)).setCell ⟨gb365,1,none⟩ (.int .u64 t363)).heap[gb365]? = some (.cells #[.int .u64 t362,.int .u64 t363] 82 (0,0))):=⟨by (with_reducible repeat (first | refine b1 ?_ _ | refine b2 ?_ | refine b3 ?_ _));refine blk_put (cs:=#[.int .u64 t362,.int .u64 0]) ?_ 1 _ rfl;(with_reducible repeat (first | refine b1 ?_ _ | refine b2 ?_ | refine b3 ?_ _));refine blk_put (cs:=#[.int .u64 0,.int .u64 0]) ?_ 0 _ rfl;exact kA⟩
    have n4_ : Aside0 (Below w.heap.size w ((w39.setCell ⟨gb365,0,none⟩ (.int .u64 t362)).setCell ⟨gb365,1,none⟩ (.int .u64 t363))):=⟨bA⟩
    (try clear BK353);(try clear BK360);(try clear BK361);(try clear BK365);(try clear HB)
    generalize ((w39.setCell ⟨gb365,0,none⟩ (.int .u64 t362)).setCell ⟨gb365,1,none⟩ (.int .u64 t363)) = w44 at n0_ n1_ n2_ n3_ n4_ ⊢
    have BK353:=n0_;have BK360:=n1_;have BK361:=n2_;have BK365:=n3_;have HB:=n4_;clear n0_ n1_ n2_ n3_ n4_;replace BK353:=Am (blk_drew BK353.out);replace BK360:=Am (blk_drew BK360.out);replace BK361:=Am (blk_drew BK361.out);replace BK365:=Am (blk_drew BK365.out);replace HB:=Am (below_drew1 HB.out)
    refine start_ (n:=23) (S:=fun w' => w'.cell? ⟨gb361,0,none⟩ = some (.int .u64 t358) ∧ w'.cell? ⟨gb361,1,none⟩ = some (.int .u64 t359) ∧ w'.cell? ⟨gb353,0,none⟩ = some (.int .i64 a0_0) ∧ w'.cell? ⟨gb353,1,none⟩ = some (.int .i64 a0_1) ∧ w'.cell? ⟨gb353,2,none⟩ = some (.int .i64 a0_2) ∧ w'.cell? ⟨gb353,3,none⟩ = some (.int .i64 a0_3) ∧ w'.cell? ⟨gb353,4,none⟩ = some (.int .i64 a0_4) ∧ w'.cell? ⟨gb353,5,none⟩ = some (.int .i64 a0_5) ∧ w'.cell? ⟨gb353,6,none⟩ = some (.int .i64 a0_6) ∧ w'.cell? ⟨gb353,7,none⟩ = some (.int .i64 a0_7)) (ds:=[]) #[nn,nn,nn,nn,nn,nn,nn,nn,nn,nn,nn,nn,nn,nn,nn,nn,nn,nn,nn,nn,nn,nn,nn] (by kernel_rfl) rfl rfl ⟨cl BK361.out 0,cl BK361.out 1,cl BK353.out 0,cl BK353.out 1,cl BK353.out 2,cl BK353.out 3,cl BK353.out 4,cl BK353.out 5,cl BK353.out 6,cl BK353.out 7⟩ (fun hHeld => ?_);refine with_tabW backfillref11_Check.tab9 backfillref11_Check.bits9 (fun HT_ HW_ => ?_)
    generalize w44.drew = w45 at BK353 BK360 BK361 BK365 HB hHeld ⊢
    refine pu_ 1 (some 40) #[nn,yy,nn,nn,nn,nn,nn,nn,nn,nn,nn,nn,nn,nn,nn,nn,nn,nn,nn,nn,nn,nn,nn] (any_of HT_.out (by kernel_rfl)) ?_
    refine pu_ 6 (some 45) #[nn,yy,nn,nn,nn,nn,yy,nn,nn,nn,nn,nn,nn,nn,nn,nn,nn,nn,nn,nn,nn,nn,nn] (any_of HT_.out (by kernel_rfl)) ?_
    refine pu_ 9 (some 48) #[nn,yy,nn,nn,nn,nn,yy,nn,nn,yy,nn,nn,nn,nn,nn,nn,nn,nn,nn,nn,nn,nn,nn] (any_of HT_.out (by kernel_rfl)) ?_
    refine pu_ 11 (some 50) #[nn,yy,nn,nn,nn,nn,yy,nn,nn,yy,nn,yy,nn,nn,nn,nn,nn,nn,nn,nn,nn,nn,nn] (any_of HT_.out (by kernel_rfl)) ?_
    refine tk_ 0 (some 39) #[yy,yy,nn,nn,nn,nn,yy,nn,nn,yy,nn,yy,nn,nn,nn,nn,nn,nn,nn,nn,nn,nn,nn] (take_ofW HT_.out HW_.out (by kernel_rfl)) hHeld ?_
    refine tk_ 2 (some 41) #[yy,yy,yy,nn,nn,nn,yy,nn,nn,yy,nn,yy,nn,nn,nn,nn,nn,nn,nn,nn,nn,nn,nn] (take_ofW HT_.out HW_.out (by kernel_rfl)) hHeld ?_
    refine tk_ 3 (some 42) #[yy,yy,yy,yy,nn,nn,yy,nn,nn,yy,nn,yy,nn,nn,nn,nn,nn,nn,nn,nn,nn,nn,nn] (take_ofW HT_.out HW_.out (by kernel_rfl)) hHeld ?_
    refine tk_ 7 (some 46) #[yy,yy,yy,yy,nn,nn,yy,yy,nn,yy,nn,yy,nn,nn,nn,nn,nn,nn,nn,nn,nn,nn,nn] (take_ofW HT_.out HW_.out (by kernel_rfl)) hHeld ?_
    refine tk_ 10 (some 49) #[yy,yy,yy,yy,nn,nn,yy,yy,nn,yy,yy,yy,nn,nn,nn,nn,nn,nn,nn,nn,nn,nn,nn] (take_ofW HT_.out HW_.out (by kernel_rfl)) hHeld ?_
    refine tk_ 12 (some 51) #[yy,yy,yy,yy,nn,nn,yy,yy,nn,yy,yy,yy,yy,nn,nn,nn,nn,nn,nn,nn,nn,nn,nn] (take_ofW HT_.out HW_.out (by kernel_rfl)) hHeld ?_
    refine pu_ 13 (some 52) #[yy,yy,yy,yy,nn,nn,yy,yy,nn,yy,yy,yy,yy,yy,nn,nn,nn,nn,nn,nn,nn,nn,nn] (any_of HT_.out (by kernel_rfl)) ?_
    refine join_ (σ:=Nat) 2 #[yy,yy,yy,yy,yy,yy,yy,yy,yy,yy,yy,yy,yy,yy,yy,yy,yy,yy,yy,yy,yy,nn,nn] (fun s_ => [(43,.int .i64 t366),(55,.tuple #[.agg #[.int .u64 t367,.int .u64 t368],.bool t369]),(7,.pointer (some ⟨s_,0,none⟩)),(44,.int .i64 (wrap64 (a0_3 * t366))),(47,.int .i64 (wrap64 ((wrap64 (a0_3 * t366)) + a0_4))),(53,.int .i64 (wrap64 ((wrap64 ((wrap64 (a0_3 * t366)) + a0_4)) + (wrap64 (a0_5 * a0_0))))),(54,.int .u64 (IntKind.u64.wrap (wrap64 ((wrap64 ((wrap64 (a0_3 * t366)) + a0_4)) + (wrap64 (a0_5 * a0_0)))))),(38,.tuple #[.agg #[.int .u64 t367,.int .u64 t368],.bool t369]),(56,.agg #[.int .u64 t367,.int .u64 t368]),(57,.bool t369)]) (fun s_ w' => (w'.cell? ⟨gb361,0,none⟩ = some (.int .u64 t358) ∧ w'.cell? ⟨gb361,1,none⟩ = some (.int .u64 t359) ∧ w'.cell? ⟨gb353,0,none⟩ = some (.int .i64 a0_0) ∧ w'.cell? ⟨gb353,1,none⟩ = some (.int .i64 a0_1) ∧ w'.cell? ⟨gb353,2,none⟩ = some (.int .i64 a0_2) ∧ w'.cell? ⟨gb353,3,none⟩ = some (.int .i64 a0_3) ∧ w'.cell? ⟨gb353,4,none⟩ = some (.int .i64 a0_4) ∧ w'.cell? ⟨gb353,5,none⟩ = some (.int .i64 a0_5) ∧ w'.cell? ⟨gb353,6,none⟩ = some (.int .i64 a0_6) ∧ w'.cell? ⟨gb353,7,none⟩ = some (.int .i64 a0_7)) ∧ (w'.heap[gb353]? = some (.cells #[.int .i64 a0_0,.int .i64 a0_1,.int .i64 a0_2,.int .i64 a0_3,.int .i64 a0_4,.int .i64 a0_5,.int .i64 a0_6,.int .i64 a0_7] 23 (0,0))) ∧ (w'.heap[gb360]? = some (.cells #[.int .u64 t356,.int .u64 t357] 82 (0,0))) ∧ (w'.heap[gb361]? = some (.cells #[.int .u64 t358,.int .u64 t359] 82 (0,0))) ∧ (w'.heap[gb365]? = some (.cells #[.int .u64 t362,.int .u64 t363] 82 (0,0))) ∧ (w'.heap[s_]? = some (.cells #[.int .u64 0,.int .u64 0] 82 (0,0))) ∧ (w.heap.size ≤ s_) ∧ (w.heap.size ≤ s_) ∧ (gb353 ≠ s_) ∧ (s_ ≠ gb353) ∧ (gb360 ≠ s_) ∧ (s_ ≠ gb360) ∧ (gb361 ≠ s_) ∧ (s_ ≠ gb361) ∧ (gb365 ≠ s_) ∧ (s_ ≠ gb365) ∧ (Below w.heap.size w w')) ?_ ?_
    rotate_left
    ·intro hCont
     refine two_ (i:=4) (j:=20) (Ni:=some 43) (Nj:=some 7) #[yy,yy,yy,yy,yy,nn,yy,yy,nn,yy,yy,yy,yy,yy,nn,nn,nn,nn,nn,nn,nn,nn,nn] #[yy,yy,yy,yy,nn,nn,yy,yy,nn,yy,yy,yy,yy,yy,nn,nn,nn,nn,nn,nn,yy,nn,nn] rfl rfl rfl rfl (two_of HT_.out (by kernel_rfl)) (by decide) (by decide) (fun K hK => ?_) (fun K hK => ?_)
     ·skip
      refine goes_ Tryz.func51 (by kernel_rfl) rfl #[.agg #[.int .i64 a0_0,.int .i64 a0_1,.int .i64 a0_2,.int .i64 a0_3,.int .i64 a0_4,.int .i64 a0_5,.int .i64 a0_6,.int .i64 a0_7]] (by rfl) rfl rfl aA ?_
      with_reducible refine (backfillref11_bound.calls a0_0 a0_1 a0_2 a0_3 a0_4 a0_5 a0_6 a0_7 t366 _ A20.out).mono ?_
      rintro e w46 ⟨rfl,hb⟩
      refine ⟨_,rfl,?_⟩;replace BK353:=Am (blk_below (g:=gb353) kA hb);replace BK360:=Am (blk_below (g:=gb360) kA hb);replace BK361:=Am (blk_below (g:=gb361) kA hb);replace BK365:=Am (blk_below (g:=gb365) kA hb);replace HB:=Am (below_step bA hb);(try clear hb)
      refine hK.out _ _ ⟨cl BK361.out 0,cl BK361.out 1,cl BK353.out 0,cl BK353.out 1,cl BK353.out 2,cl BK353.out 3,cl BK353.out 4,cl BK353.out 5,cl BK353.out 6,cl BK353.out 7⟩ (fun hHeld => ?_)
      clear hK K
      refine nm_ ?_
      refine pu_ 5 (some 44) #[yy,yy,yy,yy,yy,yy,yy,yy,nn,yy,yy,yy,yy,yy,nn,nn,nn,nn,nn,nn,nn,nn,nn] (any_of HT_.out (by kernel_rfl)) ?_
      refine pu_ 8 (some 47) #[yy,yy,yy,yy,yy,yy,yy,yy,yy,yy,yy,yy,yy,yy,nn,nn,nn,nn,nn,nn,nn,nn,nn] (any_of HT_.out (by kernel_rfl)) ?_
      refine pu_ 14 (some 53) #[yy,yy,yy,yy,yy,yy,yy,yy,yy,yy,yy,yy,yy,yy,yy,nn,nn,nn,nn,nn,nn,nn,nn] (any_of HT_.out (by kernel_rfl)) ?_
      refine pu_ 15 (some 54) #[yy,yy,yy,yy,yy,yy,yy,yy,yy,yy,yy,yy,yy,yy,yy,yy,nn,nn,nn,nn,nn,nn,nn] (any_of HT_.out (by kernel_rfl)) ?_
      refine two_ (i:=16) (j:=20) (Ni:=some 55) (Nj:=some 7) #[yy,yy,yy,yy,yy,yy,yy,yy,yy,yy,yy,yy,yy,yy,yy,yy,yy,nn,nn,nn,nn,nn,nn] #[yy,yy,yy,yy,yy,yy,yy,yy,yy,yy,yy,yy,yy,yy,yy,yy,nn,nn,nn,nn,yy,nn,nn] rfl rfl rfl rfl (two_of HT_.out (by kernel_rfl)) (by decide) (by decide) (fun K hK => ?_) (fun K hK => ?_)
      ·skip
       refine goes_ Tryz.func50 (by kernel_rfl) rfl #[.agg #[.int .u64 t358,.int .u64 t359],.int .u64 (IntKind.u64.wrap (wrap64 ((wrap64 ((wrap64 (a0_3 * t366)) + a0_4)) + (wrap64 (a0_5 * a0_0)))))] (by rfl) rfl rfl aA ?_
       with_reducible refine (backfillref01_Times.calls t358 t359 (IntKind.u64.wrap (wrap64 ((wrap64 ((wrap64 (a0_3 * t366)) + a0_4)) + (wrap64 (a0_5 * a0_0))))) t367 t368 t369 _ A21.out).mono ?_
       rintro e w47 ⟨rfl,hb⟩
       refine ⟨_,rfl,?_⟩;replace BK353:=Am (blk_below (g:=gb353) kA hb);replace BK360:=Am (blk_below (g:=gb360) kA hb);replace BK361:=Am (blk_below (g:=gb361) kA hb);replace BK365:=Am (blk_below (g:=gb365) kA hb);replace HB:=Am (below_step bA hb);(try clear hb)
       refine hK.out _ _ ⟨cl BK361.out 0,cl BK361.out 1,cl BK353.out 0,cl BK353.out 1,cl BK353.out 2,cl BK353.out 3,cl BK353.out 4,cl BK353.out 5,cl BK353.out 6,cl BK353.out 7⟩ (fun hHeld => ?_)
       clear hK K
       refine nm_ ?_
       refine pu_ 17 (some 38) #[yy,yy,yy,yy,yy,yy,yy,yy,yy,yy,yy,yy,yy,yy,yy,yy,yy,yy,nn,nn,nn,nn,nn] (any_of HT_.out (by kernel_rfl)) ?_
       refine pu_ 18 (some 56) #[yy,yy,yy,yy,yy,yy,yy,yy,yy,yy,yy,yy,yy,yy,yy,yy,yy,yy,yy,nn,nn,nn,nn] (any_of HT_.out (by kernel_rfl)) ?_
       refine pu_ 19 (some 57) #[yy,yy,yy,yy,yy,yy,yy,yy,yy,yy,yy,yy,yy,yy,yy,yy,yy,yy,yy,yy,nn,nn,nn] (any_of HT_.out (by kernel_rfl)) ?_
       refine one_ (i:=20) (N:=some 7) #[yy,yy,yy,yy,yy,yy,yy,yy,yy,yy,yy,yy,yy,yy,yy,yy,yy,yy,yy,yy,yy,nn,nn] rfl rfl (one_of HT_.out (by kernel_rfl)) (by decide) (fun K hK => ?_)
       refine box_step ?hg (N:=7) ?hd (cs:=#[.int .u64 0,.int .u64 0]) (t:=82) ?hr ?_;(case hd => rfl);(case hg => rfl);(case hr => first | (go_simp;done) | (go_simp;rfl))
       intro gb370 hg w48 hbox hb
       have BK370:=Am (hbox);have GW370:=Am (gwA hg bA);have GE370:=Am (gwA hg bA);have NB353_370:=Am (neA (g:=gb353) hg kA);have NB370_353:=Am (neB (g:=gb353) hg kA);have NB360_370:=Am (neA (g:=gb360) hg kA);have NB370_360:=Am (neB (g:=gb360) hg kA);have NB361_370:=Am (neA (g:=gb361) hg kA);have NB370_361:=Am (neB (g:=gb361) hg kA);have NB365_370:=Am (neA (g:=gb365) hg kA);have NB370_365:=Am (neB (g:=gb365) hg kA);replace BK353:=Am (blk_below (g:=gb353) kA hb);replace BK360:=Am (blk_below (g:=gb360) kA hb);replace BK361:=Am (blk_below (g:=gb361) kA hb);replace BK365:=Am (blk_below (g:=gb365) kA hb);replace HB:=Am (below_step bA hb);clear hb hbox hg
       refine hK.out _ _ ⟨cl BK361.out 0,cl BK361.out 1,cl BK353.out 0,cl BK353.out 1,cl BK353.out 2,cl BK353.out 3,cl BK353.out 4,cl BK353.out 5,cl BK353.out 6,cl BK353.out 7⟩ (fun hHeld => ?_)
       clear hK K
       refine nm_ ?_
       exact norm_ (by simp only [putAll,Act.put,List.setIfInBounds_toArray,List.set_cons_zero,List.set_cons_succ]) (hCont (gb370) _ ⟨hHeld,kA,kA,kA,kA,kA,GW370.out,GE370.out,NB353_370.out,NB370_353.out,NB360_370.out,NB370_360.out,NB361_370.out,NB370_361.out,NB365_370.out,NB370_365.out,bA⟩)
      ·skip
       refine box_step ?hg (N:=7) ?hd (cs:=#[.int .u64 0,.int .u64 0]) (t:=82) ?hr ?_;(case hd => rfl);(case hg => rfl);(case hr => first | (go_simp;done) | (go_simp;rfl))
       intro gb370 hg w47 hbox hb
       have BK370:=Am (hbox);have GW370:=Am (gwA hg bA);have GE370:=Am (gwA hg bA);have NB353_370:=Am (neA (g:=gb353) hg kA);have NB370_353:=Am (neB (g:=gb353) hg kA);have NB360_370:=Am (neA (g:=gb360) hg kA);have NB370_360:=Am (neB (g:=gb360) hg kA);have NB361_370:=Am (neA (g:=gb361) hg kA);have NB370_361:=Am (neB (g:=gb361) hg kA);have NB365_370:=Am (neA (g:=gb365) hg kA);have NB370_365:=Am (neB (g:=gb365) hg kA);replace BK353:=Am (blk_below (g:=gb353) kA hb);replace BK360:=Am (blk_below (g:=gb360) kA hb);replace BK361:=Am (blk_below (g:=gb361) kA hb);replace BK365:=Am (blk_below (g:=gb365) kA hb);replace HB:=Am (below_step bA hb);clear hb hbox hg
       refine hK.out _ _ ⟨cl BK361.out 0,cl BK361.out 1,cl BK353.out 0,cl BK353.out 1,cl BK353.out 2,cl BK353.out 3,cl BK353.out 4,cl BK353.out 5,cl BK353.out 6,cl BK353.out 7⟩ (fun hHeld => ?_)
       clear hK K
       refine nm_ ?_
       refine one_ (i:=16) (N:=some 55) #[yy,yy,yy,yy,yy,yy,yy,yy,yy,yy,yy,yy,yy,yy,yy,yy,yy,nn,nn,nn,yy,nn,nn] rfl rfl (one_of HT_.out (by kernel_rfl)) (by decide) (fun K hK => ?_)
       refine goes_ Tryz.func50 (by kernel_rfl) rfl #[.agg #[.int .u64 t358,.int .u64 t359],.int .u64 (IntKind.u64.wrap (wrap64 ((wrap64 ((wrap64 (a0_3 * t366)) + a0_4)) + (wrap64 (a0_5 * a0_0)))))] (by rfl) rfl rfl aA ?_
       with_reducible refine (backfillref01_Times.calls t358 t359 (IntKind.u64.wrap (wrap64 ((wrap64 ((wrap64 (a0_3 * t366)) + a0_4)) + (wrap64 (a0_5 * a0_0))))) t367 t368 t369 _ A21.out).mono ?_
       rintro e w48 ⟨rfl,hb⟩
       refine ⟨_,rfl,?_⟩;replace BK353:=Am (blk_below (g:=gb353) kA hb);replace BK360:=Am (blk_below (g:=gb360) kA hb);replace BK361:=Am (blk_below (g:=gb361) kA hb);replace BK365:=Am (blk_below (g:=gb365) kA hb);replace BK370:=Am (blk_below (g:=gb370) kA hb);replace HB:=Am (below_step bA hb);(try clear hb)
       refine hK.out _ _ ⟨cl BK361.out 0,cl BK361.out 1,cl BK353.out 0,cl BK353.out 1,cl BK353.out 2,cl BK353.out 3,cl BK353.out 4,cl BK353.out 5,cl BK353.out 6,cl BK353.out 7⟩ (fun hHeld => ?_)
       clear hK K
       refine nm_ ?_
       refine pu_ 17 (some 38) #[yy,yy,yy,yy,yy,yy,yy,yy,yy,yy,yy,yy,yy,yy,yy,yy,yy,yy,nn,nn,yy,nn,nn] (any_of HT_.out (by kernel_rfl)) ?_
       refine pu_ 18 (some 56) #[yy,yy,yy,yy,yy,yy,yy,yy,yy,yy,yy,yy,yy,yy,yy,yy,yy,yy,yy,nn,yy,nn,nn] (any_of HT_.out (by kernel_rfl)) ?_
       refine pu_ 19 (some 57) #[yy,yy,yy,yy,yy,yy,yy,yy,yy,yy,yy,yy,yy,yy,yy,yy,yy,yy,yy,yy,yy,nn,nn] (any_of HT_.out (by kernel_rfl)) ?_
       exact norm_ (by simp only [putAll,Act.put,List.setIfInBounds_toArray,List.set_cons_zero,List.set_cons_succ]) (hCont (gb370) _ ⟨hHeld,kA,kA,kA,kA,kA,GW370.out,GE370.out,NB353_370.out,NB370_353.out,NB360_370.out,NB370_360.out,NB361_370.out,NB370_361.out,NB365_370.out,NB370_365.out,bA⟩)
     ·skip
      refine box_step ?hg (N:=7) ?hd (cs:=#[.int .u64 0,.int .u64 0]) (t:=82) ?hr ?_;(case hd => rfl);(case hg => rfl);(case hr => first | (go_simp;done) | (go_simp;rfl))
      intro gb370 hg w46 hbox hb
      have BK370:=Am (hbox);have GW370:=Am (gwA hg bA);have GE370:=Am (gwA hg bA);have NB353_370:=Am (neA (g:=gb353) hg kA);have NB370_353:=Am (neB (g:=gb353) hg kA);have NB360_370:=Am (neA (g:=gb360) hg kA);have NB370_360:=Am (neB (g:=gb360) hg kA);have NB361_370:=Am (neA (g:=gb361) hg kA);have NB370_361:=Am (neB (g:=gb361) hg kA);have NB365_370:=Am (neA (g:=gb365) hg kA);have NB370_365:=Am (neB (g:=gb365) hg kA);replace BK353:=Am (blk_below (g:=gb353) kA hb);replace BK360:=Am (blk_below (g:=gb360) kA hb);replace BK361:=Am (blk_below (g:=gb361) kA hb);replace BK365:=Am (blk_below (g:=gb365) kA hb);replace HB:=Am (below_step bA hb);clear hb hbox hg
      refine hK.out _ _ ⟨cl BK361.out 0,cl BK361.out 1,cl BK353.out 0,cl BK353.out 1,cl BK353.out 2,cl BK353.out 3,cl BK353.out 4,cl BK353.out 5,cl BK353.out 6,cl BK353.out 7⟩ (fun hHeld => ?_)
      clear hK K
      refine nm_ ?_
      refine one_ (i:=4) (N:=some 43) #[yy,yy,yy,yy,yy,nn,yy,yy,nn,yy,yy,yy,yy,yy,nn,nn,nn,nn,nn,nn,yy,nn,nn] rfl rfl (one_of HT_.out (by kernel_rfl)) (by decide) (fun K hK => ?_)
      refine goes_ Tryz.func51 (by kernel_rfl) rfl #[.agg #[.int .i64 a0_0,.int .i64 a0_1,.int .i64 a0_2,.int .i64 a0_3,.int .i64 a0_4,.int .i64 a0_5,.int .i64 a0_6,.int .i64 a0_7]] (by rfl) rfl rfl aA ?_
      with_reducible refine (backfillref11_bound.calls a0_0 a0_1 a0_2 a0_3 a0_4 a0_5 a0_6 a0_7 t366 _ A20.out).mono ?_
      rintro e w47 ⟨rfl,hb⟩
      refine ⟨_,rfl,?_⟩;replace BK353:=Am (blk_below (g:=gb353) kA hb);replace BK360:=Am (blk_below (g:=gb360) kA hb);replace BK361:=Am (blk_below (g:=gb361) kA hb);replace BK365:=Am (blk_below (g:=gb365) kA hb);replace BK370:=Am (blk_below (g:=gb370) kA hb);replace HB:=Am (below_step bA hb);(try clear hb)
      refine hK.out _ _ ⟨cl BK361.out 0,cl BK361.out 1,cl BK353.out 0,cl BK353.out 1,cl BK353.out 2,cl BK353.out 3,cl BK353.out 4,cl BK353.out 5,cl BK353.out 6,cl BK353.out 7⟩ (fun hHeld => ?_)
      clear hK K
      refine nm_ ?_
      refine pu_ 5 (some 44) #[yy,yy,yy,yy,yy,yy,yy,yy,nn,yy,yy,yy,yy,yy,nn,nn,nn,nn,nn,nn,yy,nn,nn] (any_of HT_.out (by kernel_rfl)) ?_
      refine pu_ 8 (some 47) #[yy,yy,yy,yy,yy,yy,yy,yy,yy,yy,yy,yy,yy,yy,nn,nn,nn,nn,nn,nn,yy,nn,nn] (any_of HT_.out (by kernel_rfl)) ?_
      refine pu_ 14 (some 53) #[yy,yy,yy,yy,yy,yy,yy,yy,yy,yy,yy,yy,yy,yy,yy,nn,nn,nn,nn,nn,yy,nn,nn] (any_of HT_.out (by kernel_rfl)) ?_
      refine pu_ 15 (some 54) #[yy,yy,yy,yy,yy,yy,yy,yy,yy,yy,yy,yy,yy,yy,yy,yy,nn,nn,nn,nn,yy,nn,nn] (any_of HT_.out (by kernel_rfl)) ?_
      refine one_ (i:=16) (N:=some 55) #[yy,yy,yy,yy,yy,yy,yy,yy,yy,yy,yy,yy,yy,yy,yy,yy,yy,nn,nn,nn,yy,nn,nn] rfl rfl (one_of HT_.out (by kernel_rfl)) (by decide) (fun K hK => ?_)
      refine goes_ Tryz.func50 (by kernel_rfl) rfl #[.agg #[.int .u64 t358,.int .u64 t359],.int .u64 (IntKind.u64.wrap (wrap64 ((wrap64 ((wrap64 (a0_3 * t366)) + a0_4)) + (wrap64 (a0_5 * a0_0)))))] (by rfl) rfl rfl aA ?_
      with_reducible refine (backfillref01_Times.calls t358 t359 (IntKind.u64.wrap (wrap64 ((wrap64 ((wrap64 (a0_3 * t366)) + a0_4)) + (wrap64 (a0_5 * a0_0))))) t367 t368 t369 _ A21.out).mono ?_
      rintro e w48 ⟨rfl,hb⟩
      refine ⟨_,rfl,?_⟩;replace BK353:=Am (blk_below (g:=gb353) kA hb);replace BK360:=Am (blk_below (g:=gb360) kA hb);replace BK361:=Am (blk_below (g:=gb361) kA hb);replace BK365:=Am (blk_below (g:=gb365) kA hb);replace BK370:=Am (blk_below (g:=gb370) kA hb);replace HB:=Am (below_step bA hb);(try clear hb)
      refine hK.out _ _ ⟨cl BK361.out 0,cl BK361.out 1,cl BK353.out 0,cl BK353.out 1,cl BK353.out 2,cl BK353.out 3,cl BK353.out 4,cl BK353.out 5,cl BK353.out 6,cl BK353.out 7⟩ (fun hHeld => ?_)
      clear hK K
      refine nm_ ?_
      refine pu_ 17 (some 38) #[yy,yy,yy,yy,yy,yy,yy,yy,yy,yy,yy,yy,yy,yy,yy,yy,yy,yy,nn,nn,yy,nn,nn] (any_of HT_.out (by kernel_rfl)) ?_
      refine pu_ 18 (some 56) #[yy,yy,yy,yy,yy,yy,yy,yy,yy,yy,yy,yy,yy,yy,yy,yy,yy,yy,yy,nn,yy,nn,nn] (any_of HT_.out (by kernel_rfl)) ?_
      refine pu_ 19 (some 57) #[yy,yy,yy,yy,yy,yy,yy,yy,yy,yy,yy,yy,yy,yy,yy,yy,yy,yy,yy,yy,yy,nn,nn] (any_of HT_.out (by kernel_rfl)) ?_
      exact norm_ (by simp only [putAll,Act.put,List.setIfInBounds_toArray,List.set_cons_zero,List.set_cons_succ]) (hCont (gb370) _ ⟨hHeld,kA,kA,kA,kA,kA,GW370.out,GE370.out,NB353_370.out,NB370_353.out,NB360_370.out,NB370_360.out,NB361_370.out,NB370_361.out,NB365_370.out,NB370_365.out,bA⟩)
    rintro gb370 w49 ⟨hS_,h0_,h1_,h2_,h3_,h4_,h5_,h6_,h7_,h8_,h9_,h10_,h11_,h12_,h13_,h14_,h15_⟩
    replace BK353:=Am h0_;replace BK360:=Am h1_;replace BK361:=Am h2_;replace BK365:=Am h3_;have BK370:=Am h4_;have GW370:=Am h5_;have GE370:=Am h6_;have NB353_370:=Am h7_;have NB370_353:=Am h8_;have NB360_370:=Am h9_;have NB370_360:=Am h10_;have NB361_370:=Am h11_;have NB370_361:=Am h12_;have NB365_370:=Am h13_;have NB370_365:=Am h14_;replace HB:=Am h15_;clear h0_ h1_ h2_ h3_ h4_ h5_ h6_ h7_ h8_ h9_ h10_ h11_ h12_ h13_ h14_ h15_;have hHeld:=hS_
    refine norm_ (a':=?_) ?_ ?_
    rotate_left
    ·simp only [putAll,Act.put,List.setIfInBounds_toArray,List.set_cons_zero,List.set_cons_succ]
     rfl
    refine one_ (i:=21) (N:=none) #[yy,yy,yy,yy,yy,yy,yy,yy,yy,yy,yy,yy,yy,yy,yy,yy,yy,yy,yy,yy,yy,yy,nn] rfl rfl (one_of HT_.out (by kernel_rfl)) (by decide) (fun K hK => ?_)
    have hs50 : w49.cell? ⟨gb370,0,none⟩ = some (.int .u64 0):=(blk_cell BK370.out 0).trans rfl
    have hfs50:=blk_frozen BK370.out 0
    have hns50_0:=NB353_370.out
    have hns50_1:=NB360_370.out
    have hns50_2:=NB361_370.out
    have hns50_3:=NB365_370.out
    have hms50_0:=NB370_353.out
    have hms50_1:=NB370_360.out
    have hms50_2:=NB370_361.out
    have hms50_3:=NB370_365.out
    have hs51 : w49.cell? ⟨gb370,1,none⟩ = some (.int .u64 0):=(blk_cell BK370.out 1).trans rfl
    have hfs51:=blk_frozen BK370.out 1
    have hns51_0:=NB353_370.out
    have hns51_1:=NB360_370.out
    have hns51_2:=NB361_370.out
    have hns51_3:=NB365_370.out
    have hms51_0:=NB370_353.out
    have hms51_1:=NB370_360.out
    have hms51_2:=NB370_361.out
    have hms51_3:=NB370_365.out
    refine skip_ (w1:=?_) (by rfl) rfl ?_ ?_
    rotate_left
    ·go_simp
     rfl
    refine hK.out _ _ ⟨((cell_far (p:=⟨gb370,_,none⟩) NB361_370.out _).trans (((cell_far (p:=⟨gb370,_,none⟩) NB361_370.out _).trans (hHeld.1)))),((cell_far (p:=⟨gb370,_,none⟩) NB361_370.out _).trans (((cell_far (p:=⟨gb370,_,none⟩) NB361_370.out _).trans (hHeld.2.1)))),((cell_far (p:=⟨gb370,_,none⟩) NB353_370.out _).trans (((cell_far (p:=⟨gb370,_,none⟩) NB353_370.out _).trans (hHeld.2.2.1)))),((cell_far (p:=⟨gb370,_,none⟩) NB353_370.out _).trans (((cell_far (p:=⟨gb370,_,none⟩) NB353_370.out _).trans (hHeld.2.2.2.1)))),((cell_far (p:=⟨gb370,_,none⟩) NB353_370.out _).trans (((cell_far (p:=⟨gb370,_,none⟩) NB353_370.out _).trans (hHeld.2.2.2.2.1)))),((cell_far (p:=⟨gb370,_,none⟩) NB353_370.out _).trans (((cell_far (p:=⟨gb370,_,none⟩) NB353_370.out _).trans (hHeld.2.2.2.2.2.1)))),((cell_far (p:=⟨gb370,_,none⟩) NB353_370.out _).trans (((cell_far (p:=⟨gb370,_,none⟩) NB353_370.out _).trans (hHeld.2.2.2.2.2.2.1)))),((cell_far (p:=⟨gb370,_,none⟩) NB353_370.out _).trans (((cell_far (p:=⟨gb370,_,none⟩) NB353_370.out _).trans (hHeld.2.2.2.2.2.2.2.1)))),((cell_far (p:=⟨gb370,_,none⟩) NB353_370.out _).trans (((cell_far (p:=⟨gb370,_,none⟩) NB353_370.out _).trans (hHeld.2.2.2.2.2.2.2.2.1)))),((cell_far (p:=⟨gb370,_,none⟩) NB353_370.out _).trans (((cell_far (p:=⟨gb370,_,none⟩) NB353_370.out _).trans (hHeld.2.2.2.2.2.2.2.2.2))))⟩ (fun hHeld => ?_)
    clear hK K
    refine pu_ 22 (some 8) #[yy,yy,yy,yy,yy,yy,yy,yy,yy,yy,yy,yy,yy,yy,yy,yy,yy,yy,yy,yy,yy,yy,yy] (any_of HT_.out (by kernel_rfl)) ?_
    refine done_ (done_of HT_.out (by kernel_rfl)) ?_
    have hnb52:=NB365_370.out
    have hnc52:=NB370_365.out
    obtain ⟨hcz53_0,hcz53_1,hfz53_0,hfz53_1⟩:=k2 BK365.out
    have hnb54:=NB370_353.out
    have hnc54:=NB353_370.out
    have hnb55:=NB370_360.out
    have hnc55:=NB360_370.out
    have hnb56:=NB370_361.out
    have hnc56:=NB361_370.out
    obtain ⟨hcz57_0,hcz57_1,hfz57_0,hfz57_1⟩:=k2 BK370.out
    by_cases c23 : t371 > 0
    ·rw [if_pos c23] at H
     have c23b0 : decide (0 < t371) = true:=decide_eq_true c23
     clear c23
     obtain rfl:=Option.some.inj H
     try go_wp2_with (first | ((with_reducible refine gate_callee (f:=52) rfl ?_);refine goesL_ (some 60) rfl rfl Tryz.func52 (by kernel_rfl) rfl #[.agg #[.int .u64 t362,.int .u64 t363],.agg #[.int .u64 t367,.int .u64 t368]] rfl aA ?_;(with_reducible refine (backfillref01_Cmp.calls k t362 t363 t367 t368 t371 _ A22.out).mono ?_);rintro e w58 ⟨rfl,hb⟩;refine ⟨_,rfl,?_⟩;replace BK353:=Am (blk_below (g:=gb353) (o:=.cells #[.int .i64 a0_0,.int .i64 a0_1,.int .i64 a0_2,.int .i64 a0_3,.int .i64 a0_4,.int .i64 a0_5,.int .i64 a0_6,.int .i64 a0_7] 23 (0,0)) kF hb);replace BK360:=Am (blk_below (g:=gb360) (o:=.cells #[.int .u64 t356,.int .u64 t357] 82 (0,0)) kF hb);replace BK361:=Am (blk_below (g:=gb361) (o:=.cells #[.int .u64 t358,.int .u64 t359] 82 (0,0)) kF hb);replace BK365:=Am (blk_below (g:=gb365) (o:=.cells #[.int .u64 t362,.int .u64 t363] 82 (0,0)) kF hb);replace BK370:=Am (blk_below (g:=gb370) (o:=.cells #[.int .u64 t367,.int .u64 t368] 82 (0,0)) (by (with_reducible repeat (first | refine b1 ?_ _ | refine b2 ?_ | refine b3 ?_ _));refine blk_put (cs:=#[.int .u64 t367,.int .u64 0]) ?_ 1 _ rfl;(with_reducible repeat (first | refine b1 ?_ _ | refine b2 ?_ | refine b3 ?_ _));refine blk_put (cs:=#[.int .u64 0,.int .u64 0]) ?_ 0 _ rfl;exact kA) hb);replace HB:=Am (below_step bA hb);(try clear hb)))
     go_ret
     exact eA
    ·rw [if_neg c23] at H
     have c23b0 : decide (0 < t371) = false:=decide_eq_false c23
     clear c23
     obtain rfl:=Option.some.inj H
     try go_wp2_with (first | ((with_reducible refine gate_callee (f:=52) rfl ?_);refine goesL_ (some 60) rfl rfl Tryz.func52 (by kernel_rfl) rfl #[.agg #[.int .u64 t362,.int .u64 t363],.agg #[.int .u64 t367,.int .u64 t368]] rfl aA ?_;(with_reducible refine (backfillref01_Cmp.calls k t362 t363 t367 t368 t371 _ A22.out).mono ?_);rintro e w58 ⟨rfl,hb⟩;refine ⟨_,rfl,?_⟩;replace BK353:=Am (blk_below (g:=gb353) (o:=.cells #[.int .i64 a0_0,.int .i64 a0_1,.int .i64 a0_2,.int .i64 a0_3,.int .i64 a0_4,.int .i64 a0_5,.int .i64 a0_6,.int .i64 a0_7] 23 (0,0)) kF hb);replace BK360:=Am (blk_below (g:=gb360) (o:=.cells #[.int .u64 t356,.int .u64 t357] 82 (0,0)) kF hb);replace BK361:=Am (blk_below (g:=gb361) (o:=.cells #[.int .u64 t358,.int .u64 t359] 82 (0,0)) kF hb);replace BK365:=Am (blk_below (g:=gb365) (o:=.cells #[.int .u64 t362,.int .u64 t363] 82 (0,0)) kF hb);replace BK370:=Am (blk_below (g:=gb370) (o:=.cells #[.int .u64 t367,.int .u64 t368] 82 (0,0)) (by (with_reducible repeat (first | refine b1 ?_ _ | refine b2 ?_ | refine b3 ?_ _));refine blk_put (cs:=#[.int .u64 t367,.int .u64 0]) ?_ 1 _ rfl;(with_reducible repeat (first | refine b1 ?_ _ | refine b2 ?_ | refine b3 ?_ _));refine blk_put (cs:=#[.int .u64 0,.int .u64 0]) ?_ 0 _ rfl;exact kA) hb);replace HB:=Am (below_step bA hb);(try clear hb)))
     go_ret
     exact eA
 ·replace c3:=Bool.eq_false_iff.mpr c3
  subst c3
  have H1 : (some 110) = some r:=by rw [if_neg (show ¬ (false = true) by decide)] at H;exact H
  clear H
  have H:=H1
  clear H1
  obtain rfl:=Option.some.inj H
  go_enter Tryz.func25,Tryz.ntmps25
  go_wp2_with (first | ((with_reducible refine gate_dst (N:=1) rfl ?_);refine bxA 1 #[.int .i64 a0_0,.int .i64 a0_1,.int .i64 a0_2,.int .i64 a0_3,.int .i64 a0_4,.int .i64 a0_5,.int .i64 a0_6,.int .i64 a0_7] 23 ?_;intro gb353 hg w94 hbox hb;have BK353:=Am (hbox);have GW353:=Am (gwA hg bA);have GE353:=Am (gwA hg bA);replace HB:=Am (below_step bA hb);clear hb hbox hg;obtain ⟨hcz95_0,hcz95_1,hcz95_2,hcz95_3,hcz95_4,hcz95_5,hcz95_6,hcz95_7,hfz95_0,hfz95_1,hfz95_2,hfz95_3,hfz95_4,hfz95_5,hfz95_6,hfz95_7⟩:=k8 BK353.out) | ((with_reducible refine gate_callee (f:=47) rfl ?_);refine goesL_ (some 10) rfl rfl Tryz.func47 (by kernel_rfl) rfl #[.agg #[.int .i64 a0_0,.int .i64 a0_1,.int .i64 a0_2,.int .i64 a0_3,.int .i64 a0_4,.int .i64 a0_5,.int .i64 a0_6,.int .i64 a0_7]] rfl aA ?_;(with_reducible refine (backfillref11_ranges.calls k a0_0 a0_1 a0_2 a0_3 a0_4 a0_5 a0_6 a0_7 false _ A2.out).mono ?_);rintro e w96 ⟨rfl,hb⟩;refine ⟨_,rfl,?_⟩;replace BK353:=Am (blk_below (g:=gb353) kA hb);replace HB:=Am (below_step bA hb);(try clear hb)))
  go_ret
  exact eA

end Go.Proofs.YtbhijfbjdbjpbaaGreatDoor.GSH
namespace Go.Proofs.YtbhijfbjdbjpbaaGreatDoor.Q
open Go.RowKit Go.Proofs.YtbhijfbjdbjpbaaGreatDoor.GSH Go.Proofs.YtbhijfbjdbjpbaaGreatDoorW.PrintWords Go.Proofs.YtbhijfbjdbjpbaaGreatDoorW.PrintLast Go.Proofs.YtbhijfbjdbjpbaaGreatDoorW.PrintMore
theorem r_in (x lo hi : Int) : backfillref11_within.f x lo hi = some (within x lo hi):=by
  unfold backfillref11_within.f within
  by_cases c : x ≥ lo
  · rw [if_pos c];congr 1;by_cases d : x ≤ hi <;> simp [c,d]
  · rw [if_neg c];congr 1;simp;omega
theorem r_ranges (k : Nat) (hk : 3 ≤ k) (N Q L A F S P H : Int) : backfillref11_ranges.f k N Q L A F S P H = some (inR N Q L A F S P H):=by
  obtain ⟨k,rfl⟩ : ∃ m,k = m + 2:=⟨k - 2,by omega⟩
  unfold backfillref11_ranges.f inR
  simp only [backfillref11_ranges.j0,r_in,Option.bind_some]
  generalize within N 1 256 = b0
  generalize within Q 1 128 = b1
  generalize within L 1 1048576 = b2
  generalize within A 1 1048576 = b3
  generalize within F 0 1048576 = b4
  generalize within S 0 1048576 = b5
  generalize within P 1 1048576 = b6
  generalize within H 1 1073741824 = b7
  cases b0 <;> cases b1 <;> cases b2 <;> cases b3 <;> cases b4 <;> cases b5 <;> cases b6 <;> cases b7 <;> rfl
section
variable {N Q L A F S P H : Int} (B : Bds N Q L A F S P H)
include B
theorem r_C : backfillref11_C.f N Q L A F S P H = some (N * P):=by
  unfold backfillref11_C.f
  rw [wrap64_in (by have:=B.c0;omega) (by have:=B.c1;omega)]
theorem r_K : backfillref11_K.f N Q L A F S P H = some (keepV P H):=by
  obtain ⟨u0,u1⟩:=up_bd B.e0
  have e0:=B.e0;have e1:=B.e1;have p0:=B.p0;have p1:=B.p1;have h0:=B.h0;have h1:=B.h1
  unfold backfillref11_K.f backfillref10_Exponent.f
  rw [w64_in (x:=H) (by omega) (by omega),if_neg (by omega),w64_in (x:=P) (by omega) (by omega),w64_in (x:=P * 4294967296) (by omega) (by omega),tdiv_eq (by omega),show P * 4294967296 / H = eV P H from rfl,w64_in (x:=eV P H) (by omega) (by omega)]
  simp only [Option.bind_some]
  unfold backfillref11_up.f
  rw [wrap64_in (x:=eV P H) (by omega) (by omega),if_neg (by omega),wrap64_in (x:=8589934592 + eV P H) (by omega) (by omega),wrap64_in (x:=8589934592 + eV P H - 1) (by omega) (by omega),tdiv_eq (by omega),wrap64_in (x:=(8589934592 + eV P H - 1) / eV P H) (by omega) (by omega)]
  simp only [Option.bind_some]
  unfold keepV
  split <;> rfl
theorem r_M : backfillref11_M.f N Q L A F S P H = some (mostV N P H):=by
  unfold backfillref11_M.f
  rw [r_C B,r_K B]
  simp only [Option.bind_some]
  have m0:=B.m0;have m1:=B.m1;have k0:=B.k0
  rw [show N * P * keepV P H = mostV N P H from rfl,wrap64_in (by omega) (by omega)]
theorem r_lead : backfillref11_lead.f N Q L A F S P H = some (leadV N A F S):=by
  have a:=B.ld0;have b:=B.ld1;have c:=B.fs0;have d:=B.a0;have e:=B.sn0;have f:=B.sn1;have g:=B.fs1
  unfold backfillref11_lead.f
  rw [if_neg (by omega),wrap64_in (x:=S * N) (by omega) (by omega),show F + S * N = fsV N F S from rfl,wrap64_in (x:=fsV N F S) (by omega) (by omega),tdiv_eq c,show fsV N F S / A = leadV N A F S from rfl,wrap64_in (by omega) (by omega)]
theorem r_bound : backfillref11_bound.f N Q L A F S P H = some (boundV N Q L A F S):=by
  have a:=B.ld0;have b:=B.ld1;have c:=B.ql0;have d:=B.ql1
  unfold backfillref11_bound.f boundV
  rw [r_lead B]
  simp only [Option.bind_some]
  rw [wrap64_in (x:=leadV N A F S + 1) (by omega) (by omega),wrap64_in (x:=Q * L) (by omega) (by omega),wrap64_in (by omega) (by omega)]
theorem r_G (hm : mostV N P H ≤ 2147483648) : backfillref11_G.f N Q L A F S P H = some (gV N P H):=by
  obtain ⟨g0,g1,x0,x1,fx0,fx1,n0,n1⟩:=num_of B hm
  have m0:=B.m0;have k0:=B.k0
  unfold backfillref11_G.f
  rw [r_K B,r_M B]
  simp only [Option.bind_some]
  unfold backfillref11_up.f
  have hd : 0 ≤ (mostV N P H * 81 + 2147483648 - 1) / 2147483648:=Int.ediv_nonneg (by omega) (by omega)
  rw [if_neg (by decide),wrap64_in (x:=mostV N P H * 81) (by omega) (by omega),wrap64_in (x:=mostV N P H * 81 + 2147483648) (by omega) (by omega),wrap64_in (x:=mostV N P H * 81 + 2147483648 - 1) (by omega) (by omega),tdiv_eq (by omega),wrap64_in (x:=(mostV N P H * 81 + 2147483648 - 1) / 2147483648) (by omega) (by omega)]
  simp only [Option.bind_some]
  rw [wrap64_in (x:=1 + (mostV N P H * 81 + 2147483648 - 1) / 2147483648) (by omega) (by omega),show keepV P H * (1 + (mostV N P H * 81 + 2147483648 - 1) / 2147483648) = gV N P H from rfl,wrap64_in (by omega) (by omega)]
theorem r_bounds (hm : mostV N P H ≤ 2147483648) : backfillref11_off.f N Q L A F S P H = some (bndV N F P H):=by
  obtain ⟨g0,g1,x0,x1,fx0,fx1,n0,n1⟩:=num_of B hm
  have c0:=B.c0;have c1:=B.c1;have f0:=B.f0;have f1:=B.f1;have m0:=B.m0;have k0:=B.k0
  unfold backfillref11_off.f bndV backfillref01_Of.f
  by_cases c : F = 0
  · rw [if_pos c,if_pos c];rfl
  · rw [if_neg c,if_neg c,r_C B,r_G B hm]
    simp only [Option.bind_some]
    rw [wrap64_in (x:=2 * (N * P)) (by omega) (by omega),w64_in (x:=N * P) (by omega) (by omega),w64_in (x:=gV N P H) (by omega) (by omega),w64_in (x:=2 * (N * P)) (by omega) (by omega),w64_in (x:=F) (by omega) (by omega)]
    rw [rmul (a:=N * P) ⟨by omega,by omega⟩ ⟨by omega,by omega⟩,rmul (a:=258048) ⟨by omega,by omega⟩ ⟨by omega,by omega⟩]
    simp only [Option.bind_some]
    rw [radd ⟨by omega,by omega⟩ (umod' _) ⟨by omega,by omega⟩ ⟨by omega,by omega⟩]
    simp only [Option.bind_some]
    have e0 : addV (V (258048 * gV N P H / 18446744073709551616) (258048 * gV N P H % 18446744073709551616)) (V 0 (2 * (N * P))) = (xV N P H / 18446744073709551616,xV N P H % 18446744073709551616,true):=by
      unfold addV
      have : V (258048 * gV N P H / 18446744073709551616) (258048 * gV N P H % 18446744073709551616) + V 0 (2 * (N * P)) = xV N P H:=by unfold V xV;omega
      rw [this,if_pos (by omega)]
    rw [e0]
    dsimp only
    rw [rtimes ⟨by omega,by omega⟩ (umod' _) ⟨by omega,by omega⟩]
    have ht:=times_fits (q:=xV N P H) (y:=F) x0 f0 (by rw [Int.mul_comm];omega)
    rw [ht]
    simp only [Option.bind_some]
    rw [Int.mul_comm (xV N P H) F]
    rw [radd ⟨by omega,by omega⟩ (umod' _) ⟨by omega,by omega⟩ (umod' _)]
    simp only [Option.bind_some]
    unfold addV
    have e1 : V (F * xV N P H / 18446744073709551616) (F * xV N P H % 18446744073709551616) + V (N * P * 4294967296 / 18446744073709551616) (N * P * 4294967296 % 18446744073709551616) = numV N F P H:=by
      unfold V numV denV
      omega
    rw [e1,if_pos (by omega)]
    rfl
end
theorem r_check (k : Nat) (hk : 3 ≤ k) (N Q L A F S P H : Int) : backfillref11_Check.f k N Q L A F S P H = some (checkV N Q L A F S P H):=by
  unfold backfillref11_Check.f checkV
  rw [r_ranges k hk]
  simp only [Option.bind_some]
  by_cases c : inR N Q L A F S P H = true
  · have B:=bds (inR_cfg c)
    have fs0:=B.fs0;have fs1:=B.fs1;have a0:=B.a0;have a1:=B.a1;have s0:=B.sn0;have s1:=B.sn1;have f0:=B.f0;have f1:=B.f1;have ab0:=B.ab0;have ab1:=B.ab1
    rw [if_pos c,if_pos c,r_M B]
    simp only [Option.bind_some]
    by_cases d : mostV N P H > 2147483648
    · rw [if_pos d,if_pos d]
    · rw [if_neg d,if_neg d]
      have e1 : A * 1099511627776 + F + S * N = A * 1099511627776 + fsV N F S:=by unfold fsV;omega
      rw [wrap64_in (x:=A * 1099511627776) (by omega) (by omega),wrap64_in (x:=A * 1099511627776 + F) (by omega) (by omega),wrap64_in (x:=S * N) (by omega) (by omega),wrap64_in (x:=A * 1099511627776 + F + S * N) (by omega) (by omega),e1]
      by_cases e : A * 1099511627776 + fsV N F S ≥ 4611686018427387904
      · rw [if_pos e,if_pos e]
      · rw [if_neg e,if_neg e,r_bounds B (by omega),r_bound B]
        simp only [Option.bind_some]
        obtain ⟨u0,u1,u2,u3⟩:=bnd_U B (show mostV N P H ≤ 2147483648 by omega)
        have e2 : A * boundV N Q L A F S + F + S * N = A * boundV N Q L A F S + fsV N F S:=by unfold fsV;omega
        rw [wrap64_in (x:=A * boundV N Q L A F S) (by omega) (by omega),wrap64_in (x:=A * boundV N Q L A F S + F) (by omega) (by omega),wrap64_in (x:=A * boundV N Q L A F S + F + S * N) (by omega) (by omega),e2,w64_in (x:=A * boundV N Q L A F S + fsV N F S) (by omega) (by omega)]
        rw [rtimes u0 u1 ⟨by omega,by omega⟩,rtimes u2 u3 ⟨by omega,by omega⟩]
        simp only [Option.bind_some]
        rw [rcmp k (by omega) times_U times_U]
        simp only [Option.bind_some]
        unfold offV
        split <;> rfl
  · rw [if_neg c,if_neg c]
end Go.Proofs.YtbhijfbjdbjpbaaGreatDoor.Q
namespace Go.Proofs.YtbhijfbjdbjpbaaGreatDoor.GSH
open Go.RowKit Go.Proofs.YtbhijfbjdbjpbaaGreatDoorW.PrintWords Go.Proofs.YtbhijfbjdbjpbaaGreatDoorW.PrintLast Go.Proofs.YtbhijfbjdbjpbaaGreatDoorW.PrintMore
attribute [local go_sem] max2_int min2_int max_two min_two max_three min_three max_four min_four   -- for this text's walks alone
set_option linter.unusedVariables false
set_option linter.unusedSimpArgs false
def backfillref04_small.f (a0_0 : Int) (a0_1 : Int) : Option (Int × Bool):=if a0_0 > 0 then (some (18446744073709551615,false)) else (some (a0_1,true))
theorem backfillref04_small.calls (a0_0 : Int) (a0_1 : Int) (r1 : Int) (r2 : Bool) (w : World) (h : backfillref04_small.f a0_0 a0_1 = some (r1,r2)) :
  Calls Tryz.prog 87 #[.agg #[.int .u64 a0_0,.int .u64 a0_1]] w fun e w' => e = .returned (.tuple #[.int .u64 r1,.bool r2]) ∧ Below w.heap.size w w':=by
 have hu82:=Tryz.underlying82
 have HB:=Am (Below.refl w.heap.size w)
 have H : (if a0_0 > 0 then (some (18446744073709551615,false)) else (some (a0_1,true))) = some (r1,r2):=h
 clear h
 by_cases c2 : a0_0 > 0
 ·rw [if_pos c2] at H
  have c2b0 : decide (0 < a0_0) = true:=decide_eq_true c2
  clear c2
  simp only [Option.some.injEq,Prod.mk.injEq] at H
  obtain ⟨rfl,rfl⟩:=H
  go_enter Tryz.func87,Tryz.ntmps87
  go_wp2_with (first | ((with_reducible refine gate_dst (N:=1) rfl ?_);refine bxA 1 #[.int .u64 a0_0,.int .u64 a0_1] 82 ?_;intro gb372 hg w3 hbox hb;have BK372:=Am (hbox);have GW372:=Am (gwA hg bA);have GE372:=Am (gwA hg bA);replace HB:=Am (below_step bA hb);clear hb hbox hg;obtain ⟨hcz4_0,hcz4_1,hfz4_0,hfz4_1⟩:=k2 BK372.out))
  go_ret2
  exact eA
 ·rw [if_neg c2] at H
  have c2b0 : decide (0 < a0_0) = false:=decide_eq_false c2
  clear c2
  simp only [Option.some.injEq,Prod.mk.injEq] at H
  obtain ⟨rfl,rfl⟩:=H
  go_enter Tryz.func87,Tryz.ntmps87
  go_wp2_with (first | ((with_reducible refine gate_dst (N:=1) rfl ?_);refine bxA 1 #[.int .u64 a0_0,.int .u64 a0_1] 82 ?_;intro gb372 hg w5 hbox hb;have BK372:=Am (hbox);have GW372:=Am (gwA hg bA);have GE372:=Am (gwA hg bA);replace HB:=Am (below_step bA hb);clear hb hbox hg;obtain ⟨hcz6_0,hcz6_1,hfz6_0,hfz6_1⟩:=k2 BK372.out))
  go_ret2
  exact eA

def backfillref04_Add.f (a0 : Int) (a1 : Int) : Option (Int × Bool):=(backfillref01_Of.f a0).bind fun bt373 => ((backfillref01_Of.f a1).bind fun bt375 => ((backfillref01_Add.f bt373.1 bt373.2 bt375.1 bt375.2).bind fun bt377 => ((backfillref04_small.f bt377.1 bt377.2.1).bind fun bt381 => (some (bt381.1,bt381.2)))))
theorem backfillref04_Add.calls (a0 : Int) (a1 : Int) (r1 : Int) (r2 : Bool) (w : World) (h : backfillref04_Add.f a0 a1 = some (r1,r2)) :
  Calls Tryz.prog 53 #[.int .u64 a0,.int .u64 a1] w fun e w' => e = .returned (.tuple #[.int .u64 r1,.bool r2]) ∧ Below w.heap.size w w':=by
 have hu82:=Tryz.underlying82
 have HB:=Am (Below.refl w.heap.size w)
 have H : ((backfillref01_Of.f a0).bind fun bt373 => ((backfillref01_Of.f a1).bind fun bt375 => ((backfillref01_Add.f bt373.1 bt373.2 bt375.1 bt375.2).bind fun bt377 => ((backfillref04_small.f bt377.1 bt377.2.1).bind fun bt381 => (some (bt381.1,bt381.2)))))) = some (r1,r2):=h
 clear h;obtain ⟨⟨t373,t374⟩,A3,H⟩:=bnd H;(try dsimp only at H);obtain ⟨⟨t375,t376⟩,A4,H⟩:=bnd H;(try dsimp only at H);obtain ⟨⟨t377,t378,t379⟩,A5,H⟩:=bnd H;(try dsimp only at H);obtain ⟨⟨t381,t382⟩,A6,H⟩:=bnd H;(try dsimp only at H)
 simp only [Option.some.injEq,Prod.mk.injEq] at H
 obtain ⟨rfl,rfl⟩:=H
 go_enter Tryz.func53,Tryz.ntmps53
 go_wp2_with (first | ((with_reducible refine gate_callee (f:=63) rfl ?_);refine goesL_ (some 10) rfl rfl Tryz.func63 (by kernel_rfl) rfl #[.int .u64 a0] rfl aA ?_;(with_reducible refine (backfillref01_Of.calls a0 t373 t374 _ A3.out).mono ?_);rintro e w7 ⟨rfl,hb⟩;refine ⟨_,rfl,?_⟩;replace HB:=Am (below_step bA hb);(try clear hb)) | ((with_reducible refine gate_callee (f:=63) rfl ?_);refine goesL_ (some 12) rfl rfl Tryz.func63 (by kernel_rfl) rfl #[.int .u64 a1] rfl aA ?_;(with_reducible refine (backfillref01_Of.calls a1 t375 t376 _ A4.out).mono ?_);rintro e w8 ⟨rfl,hb⟩;refine ⟨_,rfl,?_⟩;replace HB:=Am (below_step bA hb);(try clear hb)) | ((with_reducible refine gate_callee (f:=64) rfl ?_);refine goesL_ (some 13) rfl rfl Tryz.func64 (by kernel_rfl) rfl #[.agg #[.int .u64 t373,.int .u64 t374],.agg #[.int .u64 t375,.int .u64 t376]] rfl aA ?_;(with_reducible refine (backfillref01_Add.calls t373 t374 t375 t376 t377 t378 t379 _ A5.out).mono ?_);rintro e w9 ⟨rfl,hb⟩;refine ⟨_,rfl,?_⟩;replace HB:=Am (below_step bA hb);(try clear hb)) | ((with_reducible refine gate_dst (N:=6) rfl ?_);refine bxA 6 #[.int .u64 0,.int .u64 0] 82 ?_;intro gb380 hg w10 hbox hb;have BK380:=Am (hbox);have GW380:=Am (gwA hg bA);have GE380:=Am (gwA hg bA);replace HB:=Am (below_step bA hb);clear hb hbox hg;obtain ⟨hcz11_0,hcz11_1,hfz11_0,hfz11_1⟩:=k2 BK380.out) | ((with_reducible refine gate_callee (f:=87) rfl ?_);refine goesL_ (some 17) rfl rfl Tryz.func87 (by kernel_rfl) rfl #[.agg #[.int .u64 t377,.int .u64 t378]] rfl aA ?_;(with_reducible refine (backfillref04_small.calls t377 t378 t381 t382 _ A6.out).mono ?_);rintro e w12 ⟨rfl,hb⟩;refine ⟨_,rfl,?_⟩;replace BK380:=Am (blk_below (g:=gb380) (o:=.cells #[.int .u64 t377,.int .u64 t378] 82 (0,0)) (by (with_reducible repeat (first | refine b1 ?_ _ | refine b2 ?_ | refine b3 ?_ _));refine blk_put (cs:=#[.int .u64 t377,.int .u64 0]) ?_ 1 _ rfl;(with_reducible repeat (first | refine b1 ?_ _ | refine b2 ?_ | refine b3 ?_ _));refine blk_put (cs:=#[.int .u64 0,.int .u64 0]) ?_ 0 _ rfl;exact kA) hb);replace HB:=Am (below_step bA hb);(try clear hb)))
 go_ret2
 exact eA

mutual
def backfillref13_Sum.l0 : Nat → List (S32) → List Int → Int → Int → Int → Option (Int)
 | 0,_,_,_,_,_ => none
 | k + 1,x0,x1,x2,x7,x8 => if x8 < (x0.length : Int) then (if 0 ≤ x8 then (if ((rd_T32 x0 x8).f1) = x2 then ((backfillref13_Sum.f k x0 x1 x8).bind fun t385 => ((backfillref04_Add.f x7 t385).bind fun bt386 => (backfillref13_Sum.l0 k x0 x1 x2 bt386.1 (wrap64 (x8 + 1))))) else (backfillref13_Sum.l0 k x0 x1 x2 x7 (wrap64 (x8 + 1)))) else (none)) else (some x7)
def backfillref13_Sum.f : Nat → List (S32) → List Int → Int → Option (Int)
 | 0,_,_,_ => none
 | k + 1,l0,l1,a2 => if 0 ≤ a2 then (if a2 < (l1.length : Int) then (backfillref13_Sum.l0 k l0 l1 a2 (rd l1 a2) 0) else (none)) else (none)
end
theorem backfillref13_Sum.calls (k : Nat) : ∀ (A0 : Option Addr) (c0 : Nat) (l0 : List (S32)) (A1 : Option Addr) (c1 : Nat) (l1 : List Int) (a2 : Int) (r : Int) (w : World) (hr0 : Kd.C k32 w A0 l0.length l0) (hc0 : l0.length ≤ c0) (hr1 : Kd.C (Kd.int .u64) w A1 l1.length l1) (hc1 : l1.length ≤ c1) (h : backfillref13_Sum.f k l0 l1 a2 = some r),
  Calls Tryz.prog 26 #[.slice A0 l0.length c0,.slice A1 l1.length c1,.int .i64 a2] w fun e w' => e = .returned (.int .u64 r) ∧ Below w.heap.size w w':=by
 induction k using Nat.strongRecOn with
 | _ k ih =>
 intro A0 c0 l0 A1 c1 l1 a2 r w hr0 hc0 hr1 hc1 h
 cases k with
 | zero => exact absurd h (by simp [backfillref13_Sum.f])
 | succ k =>
 simp only [backfillref13_Sum.f] at h
 have HR0:=Aside0.mk hr0
 have HC0:=Aside0.mk hc0
 clear hr0 hc0
 have HR1:=Aside0.mk hr1
 have HC1:=Aside0.mk hc1
 clear hr1 hc1;have HB:=Am (Below.refl w.heap.size w)
 have H : (if 0 ≤ a2 then (if a2 < (l1.length : Int) then (backfillref13_Sum.l0 k l0 l1 a2 (rd l1 a2) 0) else (none)) else (none)) = some r:=h
 clear h
 by_cases c4 : 0 ≤ a2
 ·rw [if_pos c4] at H
  have c4b0 : decide (0 ≤ a2) = true:=decide_eq_true c4
  clear c4
  by_cases c5 : a2 < (l1.length : Int)
  ·rw [if_pos c5] at H
   have c5b0 : decide (a2 < (l1.length : Int)) = true:=decide_eq_true c5
   clear c5
   have H':=Aside0.mk H
   clear H
   have p383 : 0 ≤ (a2 : Int):=of_decide_eq_true (by first | (with_reducible assumption) | assumption)
   have q383 : a2 < (l1.length : Int):=of_decide_eq_true (by first | (with_reducible assumption) | assumption)
   obtain ⟨ad383,e383,hx383_0⟩:=Kd.at_int HR1.out a2 p383 q383
   cases e383
   replace p383:=eq_true p383
   replace q383:=eq_true q383
   go_enter Tryz.func26,Tryz.ntmps26
   go_wp2
   go_loopg [7,8] k (fun kq v7 v8 w' => ∃ (x7_1 : Int) (x8_1 : Int),v7 = .int .u64 x7_1 ∧ v8 = .int .i64 x8_1 ∧ Aside0 (backfillref13_Sum.l0 kq l0 l1 a2 x7_1 x8_1 = some r) ∧ Aside0 (kq ≤ k) ∧ Aside0 (Below w.heap.size w w'))
   case atStart => exact ⟨(rd l1 a2),(0),(by first | rfl | (simp;done) | (simp [*];done)),(by first | rfl | (simp;done) | (simp [*];done)),H',⟨Nat.le_refl _⟩,⟨bA⟩⟩
   case round =>
    clear H'
    try clear c1
    try clear c2
    try clear p2
    try clear p3
    try clear q3
    try clear hx3
    try clear c4
    try clear c4b0
    try clear c5
    try clear c5b0
    try clear hx383_0
    try clear p383
    try clear q383
    obtain ⟨x7_1,x8_1,rfl,rfl,HA,HK1,HB⟩:=hrel
    cases gk with
    | zero => exact absurd HA.out (by simp [backfillref13_Sum.l0])
    | succ k1 =>
     have H:=HA.out
     clear HA
     simp only [backfillref13_Sum.l0] at H
     by_cases c6 : x8_1 < (l0.length : Int)
     ·rw [if_pos c6] at H
      have c6b0 : decide (x8_1 < (l0.length : Int)) = true:=decide_eq_true c6
      clear c6
      by_cases c7 : 0 ≤ x8_1
      ·rw [if_pos c7] at H
       have c7b0 : decide (0 ≤ x8_1) = true:=decide_eq_true c7
       clear c7
       by_cases c8 : ((rd_T32 l0 x8_1).f1) = a2
       ·rw [if_pos c8] at H
        have c8b0 : (((rd_T32 l0 x8_1).f1) == a2) = true:=beq_iff_eq.mpr c8
        have c8b1 : (((rd_T32 l0 x8_1).f1) != a2) = false:=bne_eq_false_iff_eq.mpr c8
        clear c8;obtain ⟨t385,A9,H⟩:=bnd H;(try dsimp only at H);obtain ⟨⟨t386,t387⟩,A10,H⟩:=bnd H;(try dsimp only at H)
        have H':=Aside0.mk H
        clear H
        have p384 : 0 ≤ (x8_1 : Int):=of_decide_eq_true (by first | (with_reducible assumption) | assumption)
        have q384 : x8_1 < (l0.length : Int):=of_decide_eq_true (by first | (with_reducible assumption) | assumption)
        obtain ⟨ad384,e384,hx384_0,hx384_1,hx384_2,hx384_3,hx384_4⟩:=at_T32 HR0.out x8_1 p384 q384
        cases e384
        replace hx384_0:=(HB.out.cell (World.block_lt_of_cell? w _ hx384_0)).trans hx384_0
        replace hx384_1:=(HB.out.cell (World.block_lt_of_cell? w _ hx384_1)).trans hx384_1
        replace hx384_2:=(HB.out.cell (World.block_lt_of_cell? w _ hx384_2)).trans hx384_2
        replace hx384_3:=(HB.out.cell (World.block_lt_of_cell? w _ hx384_3)).trans hx384_3
        replace hx384_4:=(HB.out.cell (World.block_lt_of_cell? w _ hx384_4)).trans hx384_4
        replace p384:=eq_true p384
        replace q384:=eq_true q384
        go_wp2_with (first | ((with_reducible refine gate_callee (f:=26) rfl ?_);refine goesL_ (some 31) rfl rfl Tryz.func26 (by kernel_rfl) rfl #[.slice (some ad384) l0.length c0,.slice (some ad383) l1.length c1,.int .i64 x8_1] rfl aA ?_;(with_reducible refine (ih k1 (by have:=HK1.out;omega) _ _ l0 _ _ l1 x8_1 t385 _ ?side1 ?side2 ?side3 ?side4 A9.out).mono ?_);(case side1 => repeat (first | exact (Kd.C_below HR0.out HB.out) | (with_reducible refine Kd.C_alloc ?_ _) | (with_reducible refine Kd.C_drewN ?_ _) | (with_reducible refine Kd.C_drew ?_)));(case side2 => exact HC0.out);(case side3 => repeat (first | exact (Kd.C_below HR1.out HB.out) | (with_reducible refine Kd.C_alloc ?_ _) | (with_reducible refine Kd.C_drewN ?_ _) | (with_reducible refine Kd.C_drew ?_)));(case side4 => exact HC1.out);rintro e w11 ⟨rfl,hb⟩;refine ⟨_,rfl,?_⟩;replace HB:=Am (below_step bA hb);(try clear hb)) | ((with_reducible refine gate_callee (f:=53) rfl ?_);refine goesL_ (some 32) rfl rfl Tryz.func53 (by kernel_rfl) rfl #[.int .u64 x7_1,.int .u64 t385] rfl aA ?_;(with_reducible refine (backfillref04_Add.calls x7_1 t385 t386 t387 _ A10.out).mono ?_);rintro e w12 ⟨rfl,hb⟩;refine ⟨_,rfl,?_⟩;replace HB:=Am (below_step bA hb);(try clear hb)))
        go_roundg k1
        case measure => have:=HK1.out;omega
        case rel => exact ⟨(t386),(wrap64 (x8_1 + 1)),(by first | rfl | (simp;done) | (simp [*];done)),(by first | rfl | (simp;done) | (simp [*];done)),H',⟨by have:=HK1.out;omega⟩,⟨bA⟩⟩
       ·rw [if_neg c8] at H
        have c8b0 : (((rd_T32 l0 x8_1).f1) == a2) = false:=beq_eq_false_iff_ne.mpr c8
        have c8b1 : (((rd_T32 l0 x8_1).f1) != a2) = true:=bne_iff_ne.mpr c8
        have H':=Aside0.mk H
        clear H
        have p384 : 0 ≤ (x8_1 : Int):=of_decide_eq_true (by first | (with_reducible assumption) | assumption)
        have q384 : x8_1 < (l0.length : Int):=of_decide_eq_true (by first | (with_reducible assumption) | assumption)
        obtain ⟨ad384,e384,hx384_0,hx384_1,hx384_2,hx384_3,hx384_4⟩:=at_T32 HR0.out x8_1 p384 q384
        cases e384
        replace hx384_0:=(HB.out.cell (World.block_lt_of_cell? w _ hx384_0)).trans hx384_0
        replace hx384_1:=(HB.out.cell (World.block_lt_of_cell? w _ hx384_1)).trans hx384_1
        replace hx384_2:=(HB.out.cell (World.block_lt_of_cell? w _ hx384_2)).trans hx384_2
        replace hx384_3:=(HB.out.cell (World.block_lt_of_cell? w _ hx384_3)).trans hx384_3
        replace hx384_4:=(HB.out.cell (World.block_lt_of_cell? w _ hx384_4)).trans hx384_4
        replace p384:=eq_true p384
        replace q384:=eq_true q384
        go_wp2
        go_roundg k1
        case measure => have:=HK1.out;omega
        case rel => exact ⟨(x7_1),(wrap64 (x8_1 + 1)),(by first | rfl | (simp;done) | (simp [*];done)),(by first | rfl | (simp;done) | (simp [*];done)),H',⟨by have:=HK1.out;omega⟩,⟨bA⟩⟩
      ·rw [if_neg c7] at H
       exact absurd H (by simp)
     ·rw [if_neg c6] at H
      have c6b0 : decide (x8_1 < (l0.length : Int)) = false:=decide_eq_false c6
      clear c6
      obtain rfl:=Option.some.inj H
      go_wp2
      go_ret
      exact eA
  ·rw [if_neg c5] at H
   exact absurd H (by simp)
 ·rw [if_neg c4] at H
  exact absurd H (by simp)

def backfillref13_root.l0 : Nat → List (S32) → Int → Option (Int)
 | 0,_,_ => none
 | k + 1,x0,x3 => if x3 < (x0.length : Int) then (if 0 ≤ x3 then (if ((rd_T32 x0 x3).f1) < 0 then (some x3) else (backfillref13_root.l0 k x0 (wrap64 (x3 + 1)))) else (none)) else (some 0)
def backfillref13_root.f (k : Nat) (l0 : List (S32)) : Option (Int):=backfillref13_root.l0 k l0 0
theorem backfillref13_root.mono_l : ∀ k,(∀ y0 y1,LeO (backfillref13_root.l0 k y0 y1) (backfillref13_root.l0 (k + 1) y0 y1))
 | 0 => fun _ _ r h => by simp [backfillref13_root.l0] at h
 | k + 1 => by
  have ih0:=backfillref13_root.mono_l k
  ·intro y0 y1
   unfold backfillref13_root.l0
   repeat' first
   | (with_reducible exact ih0 _ _)
   | (with_reducible exact LeO.refl _)
   | (with_reducible exact LeO.none _)
   | (with_reducible refine LeO.ite ?_ ?_)
   | (with_reducible refine LeO.bind ?_ (fun _ => ?_))
   | exact ih0 _ _
   | exact LeO.none _
   | refine LeO.ite ?_ ?_
   | refine LeO.bind ?_ (fun _ => ?_)
theorem backfillref13_root.mono : ∀ a0 k,LeO (backfillref13_root.f k a0) (backfillref13_root.f (k + 1) a0):=by
 intro a0 k
 have ih0:=backfillref13_root.mono_l k
 unfold backfillref13_root.f
 repeat' first
   | (with_reducible exact ih0 _ _)
   | (with_reducible exact LeO.refl _)
   | (with_reducible exact LeO.none _)
   | (with_reducible refine LeO.ite ?_ ?_)
   | (with_reducible refine LeO.bind ?_ (fun _ => ?_))
   | exact ih0 _ _
   | exact LeO.none _
   | refine LeO.ite ?_ ?_
   | refine LeO.bind ?_ (fun _ => ?_)
theorem backfillref13_root.calls (k : Nat) (A0 : Option Addr) (c0 : Nat) (l0 : List (S32)) (r : Int) (w : World) (hr0 : Kd.C k32 w A0 l0.length l0) (hc0 : l0.length ≤ c0) (h : backfillref13_root.f k l0 = some r) :
  Calls Tryz.prog 27 #[.slice A0 l0.length c0] w fun e w' => e = .returned (.int .i64 r) ∧ Drawn0 w w':=by
 have HR0:=Aside0.mk hr0
 have HC0:=Aside0.mk hc0
 clear hr0 hc0
 have H : (backfillref13_root.l0 k l0 0) = some r:=h
 clear h
 have H':=Aside0.mk H
 clear H
 go_enter Tryz.func27,Tryz.ntmps27
 go_wp2
 go_loopg [3] k (fun kq v3 w' => ∃ (x3_1 : Int),v3 = .int .i64 x3_1 ∧ Aside0 (backfillref13_root.l0 kq l0 x3_1 = some r) ∧ Aside0 (kq ≤ k) ∧ Drawn0 w w')
 case atStart => exact ⟨(0),(by first | rfl | (simp;done) | (simp [*];done)),H',⟨Nat.le_refl _⟩,by repeat (first | exact Drawn0.refl _ | apply Drawn0.step)⟩
 case round =>
  clear H'
  obtain ⟨x3_1,rfl,HA,HK1,⟨m1,rfl⟩⟩:=hrel
  cases gk with
  | zero => exact absurd HA.out (by simp [backfillref13_root.l0])
  | succ k1 =>
   have H:=HA.out
   clear HA
   simp only [backfillref13_root.l0] at H
   by_cases c2 : x3_1 < (l0.length : Int)
   ·rw [if_pos c2] at H
    have c2b0 : decide (x3_1 < (l0.length : Int)) = true:=decide_eq_true c2
    clear c2
    by_cases c3 : 0 ≤ x3_1
    ·rw [if_pos c3] at H
     have c3b0 : decide (0 ≤ x3_1) = true:=decide_eq_true c3
     clear c3
     by_cases c4 : ((rd_T32 l0 x3_1).f1) < 0
     ·rw [if_pos c4] at H
      have c4b0 : decide (((rd_T32 l0 x3_1).f1) < 0) = true:=decide_eq_true c4
      clear c4
      obtain rfl:=Option.some.inj H
      have p388 : 0 ≤ (x3_1 : Int):=of_decide_eq_true (by first | (with_reducible assumption) | assumption)
      have q388 : x3_1 < (l0.length : Int):=of_decide_eq_true (by first | (with_reducible assumption) | assumption)
      obtain ⟨ad388,e388,hx388_0,hx388_1,hx388_2,hx388_3,hx388_4⟩:=at_T32 HR0.out x3_1 p388 q388
      cases e388
      replace p388:=eq_true p388
      replace q388:=eq_true q388
      go_wp2
      go_ret
      exact ⟨by first | rfl | (simp;done) | (simp [*];done),by repeat (first | exact Drawn0.refl _ | apply Drawn0.step)⟩
     ·rw [if_neg c4] at H
      have c4b0 : decide (((rd_T32 l0 x3_1).f1) < 0) = false:=decide_eq_false c4
      clear c4
      have H':=Aside0.mk H
      clear H
      have p388 : 0 ≤ (x3_1 : Int):=of_decide_eq_true (by first | (with_reducible assumption) | assumption)
      have q388 : x3_1 < (l0.length : Int):=of_decide_eq_true (by first | (with_reducible assumption) | assumption)
      obtain ⟨ad388,e388,hx388_0,hx388_1,hx388_2,hx388_3,hx388_4⟩:=at_T32 HR0.out x3_1 p388 q388
      cases e388
      replace p388:=eq_true p388
      replace q388:=eq_true q388
      go_wp2
      go_roundg k1
      case measure => have:=HK1.out;omega
      case rel => exact ⟨(wrap64 (x3_1 + 1)),(by first | rfl | (simp;done) | (simp [*];done)),H',⟨by have:=HK1.out;omega⟩,by repeat (first | exact Drawn0.refl _ | apply Drawn0.step)⟩
    ·rw [if_neg c3] at H
     exact absurd H (by simp)
   ·rw [if_neg c2] at H
    have c2b0 : decide (x3_1 < (l0.length : Int)) = false:=decide_eq_false c2
    clear c2
    obtain rfl:=Option.some.inj H
    go_wp2
    go_ret
    exact ⟨by first | rfl | (simp;done) | (simp [*];done),by repeat (first | exact Drawn0.refl _ | apply Drawn0.step)⟩

def backfillref11_Floor.f (k : Nat) (a0_0 : Int) (a0_1 : Int) (a0_2 : Int) (a0_3 : Int) (a0_4 : Int) (a0_5 : Int) (a0_6 : Int) (a0_7 : Int) : Option (Int):=(backfillref11_Check.f k a0_0 a0_1 a0_2 a0_3 a0_4 a0_5 a0_6 a0_7).bind fun t390 => (if t390 = 0 then ((backfillref11_C.f a0_0 a0_1 a0_2 a0_3 a0_4 a0_5 a0_6 a0_7).bind fun t391 => (some (IntKind.u64.wrap ((IntKind.u64.wrap (t391)) * 4294967296)))) else (some 0))
theorem backfillref11_Floor.mono : ∀ a0 a1 a2 a3 a4 a5 a6 a7 k,LeO (backfillref11_Floor.f k a0 a1 a2 a3 a4 a5 a6 a7) (backfillref11_Floor.f (k + 1) a0 a1 a2 a3 a4 a5 a6 a7):=by
 intro a0 a1 a2 a3 a4 a5 a6 a7 k
 unfold backfillref11_Floor.f
 repeat' first
   | (with_reducible exact backfillref11_Check.mono _ _ _ _ _ _ _ _ _)
   | (with_reducible exact LeO.refl _)
   | (with_reducible exact LeO.none _)
   | (with_reducible refine LeO.ite ?_ ?_)
   | (with_reducible refine LeO.bind ?_ (fun _ => ?_))
   | exact backfillref11_Check.mono _ _ _ _ _ _ _ _ _
   | exact LeO.none _
   | refine LeO.ite ?_ ?_
   | refine LeO.bind ?_ (fun _ => ?_)
theorem backfillref11_Floor.calls (k : Nat) (a0_0 : Int) (a0_1 : Int) (a0_2 : Int) (a0_3 : Int) (a0_4 : Int) (a0_5 : Int) (a0_6 : Int) (a0_7 : Int) (r : Int) (w : World) (h : backfillref11_Floor.f k a0_0 a0_1 a0_2 a0_3 a0_4 a0_5 a0_6 a0_7 = some r) :
  Calls Tryz.prog 28 #[.agg #[.int .i64 a0_0,.int .i64 a0_1,.int .i64 a0_2,.int .i64 a0_3,.int .i64 a0_4,.int .i64 a0_5,.int .i64 a0_6,.int .i64 a0_7]] w fun e w' => e = .returned (.int .u64 r) ∧ Below w.heap.size w w':=by
 have hu23:=Tryz.underlying23
 have HB:=Am (Below.refl w.heap.size w)
 have H : ((backfillref11_Check.f k a0_0 a0_1 a0_2 a0_3 a0_4 a0_5 a0_6 a0_7).bind fun t390 => (if t390 = 0 then ((backfillref11_C.f a0_0 a0_1 a0_2 a0_3 a0_4 a0_5 a0_6 a0_7).bind fun t391 => (some (IntKind.u64.wrap ((IntKind.u64.wrap (t391)) * 4294967296)))) else (some 0))) = some r:=h
 clear h;obtain ⟨t390,A2,H⟩:=bnd H;(try dsimp only at H)
 by_cases c3 : t390 = 0
 ·rw [if_pos c3] at H
  have c3b0 : (t390 == 0) = true:=beq_iff_eq.mpr c3
  have c3b1 : (t390 != 0) = false:=bne_eq_false_iff_eq.mpr c3
  clear c3;obtain ⟨t391,A4,H⟩:=bnd H;(try dsimp only at H)
  obtain rfl:=Option.some.inj H
  go_enter Tryz.func28,Tryz.ntmps28
  go_wp2_with (first | ((with_reducible refine gate_dst (N:=1) rfl ?_);refine bxA 1 #[.int .i64 a0_0,.int .i64 a0_1,.int .i64 a0_2,.int .i64 a0_3,.int .i64 a0_4,.int .i64 a0_5,.int .i64 a0_6,.int .i64 a0_7] 23 ?_;intro gb389 hg w5 hbox hb;have BK389:=Am (hbox);have GW389:=Am (gwA hg bA);have GE389:=Am (gwA hg bA);replace HB:=Am (below_step bA hb);clear hb hbox hg;obtain ⟨hcz6_0,hcz6_1,hcz6_2,hcz6_3,hcz6_4,hcz6_5,hcz6_6,hcz6_7,hfz6_0,hfz6_1,hfz6_2,hfz6_3,hfz6_4,hfz6_5,hfz6_6,hfz6_7⟩:=k8 BK389.out) | ((with_reducible refine gate_callee (f:=25) rfl ?_);refine goesL_ (some 4) rfl rfl Tryz.func25 (by kernel_rfl) rfl #[.agg #[.int .i64 a0_0,.int .i64 a0_1,.int .i64 a0_2,.int .i64 a0_3,.int .i64 a0_4,.int .i64 a0_5,.int .i64 a0_6,.int .i64 a0_7]] rfl aA ?_;(with_reducible refine (backfillref11_Check.calls k a0_0 a0_1 a0_2 a0_3 a0_4 a0_5 a0_6 a0_7 t390 _ A2.out).mono ?_);rintro e w7 ⟨rfl,hb⟩;refine ⟨_,rfl,?_⟩;replace BK389:=Am (blk_below (g:=gb389) kA hb);replace HB:=Am (below_step bA hb);(try clear hb);obtain ⟨hcz8_0,hcz8_1,hcz8_2,hcz8_3,hcz8_4,hcz8_5,hcz8_6,hcz8_7,hfz8_0,hfz8_1,hfz8_2,hfz8_3,hfz8_4,hfz8_5,hfz8_6,hfz8_7⟩:=k8 BK389.out) | ((with_reducible refine gate_callee (f:=54) rfl ?_);refine goesL_ (some 7) rfl rfl Tryz.func54 (by kernel_rfl) rfl #[.agg #[.int .i64 a0_0,.int .i64 a0_1,.int .i64 a0_2,.int .i64 a0_3,.int .i64 a0_4,.int .i64 a0_5,.int .i64 a0_6,.int .i64 a0_7]] rfl aA ?_;(with_reducible refine (backfillref11_C.calls a0_0 a0_1 a0_2 a0_3 a0_4 a0_5 a0_6 a0_7 t391 _ A4.out).mono ?_);rintro e w9 ⟨rfl,hb⟩;refine ⟨_,rfl,?_⟩;replace BK389:=Am (blk_below (g:=gb389) kA hb);replace HB:=Am (below_step bA hb);(try clear hb)))
  go_ret
  exact eA
 ·rw [if_neg c3] at H
  have c3b0 : (t390 == 0) = false:=beq_eq_false_iff_ne.mpr c3
  have c3b1 : (t390 != 0) = true:=bne_iff_ne.mpr c3
  obtain rfl:=Option.some.inj H
  go_enter Tryz.func28,Tryz.ntmps28
  go_wp2_with (first | ((with_reducible refine gate_dst (N:=1) rfl ?_);refine bxA 1 #[.int .i64 a0_0,.int .i64 a0_1,.int .i64 a0_2,.int .i64 a0_3,.int .i64 a0_4,.int .i64 a0_5,.int .i64 a0_6,.int .i64 a0_7] 23 ?_;intro gb389 hg w10 hbox hb;have BK389:=Am (hbox);have GW389:=Am (gwA hg bA);have GE389:=Am (gwA hg bA);replace HB:=Am (below_step bA hb);clear hb hbox hg;obtain ⟨hcz11_0,hcz11_1,hcz11_2,hcz11_3,hcz11_4,hcz11_5,hcz11_6,hcz11_7,hfz11_0,hfz11_1,hfz11_2,hfz11_3,hfz11_4,hfz11_5,hfz11_6,hfz11_7⟩:=k8 BK389.out) | ((with_reducible refine gate_callee (f:=25) rfl ?_);refine goesL_ (some 4) rfl rfl Tryz.func25 (by kernel_rfl) rfl #[.agg #[.int .i64 a0_0,.int .i64 a0_1,.int .i64 a0_2,.int .i64 a0_3,.int .i64 a0_4,.int .i64 a0_5,.int .i64 a0_6,.int .i64 a0_7]] rfl aA ?_;(with_reducible refine (backfillref11_Check.calls k a0_0 a0_1 a0_2 a0_3 a0_4 a0_5 a0_6 a0_7 t390 _ A2.out).mono ?_);rintro e w12 ⟨rfl,hb⟩;refine ⟨_,rfl,?_⟩;replace BK389:=Am (blk_below (g:=gb389) kA hb);replace HB:=Am (below_step bA hb);(try clear hb)))
  go_ret
  exact eA

def backfillref01_Shl.f (a0_0 : Int) (a0_1 : Int) (a1 : Int) : Option (Int × Int):=if a1 < 1 then (some (a0_0,a0_1)) else (if a1 ≥ 128 then (some (0,0)) else (if a1 ≥ 64 then (if 0 ≤ (wrap64 (a1 - 64)) then (some (shl .u64 a0_1 (wrap64 (a1 - 64)),0)) else (none)) else (if 0 ≤ a1 then (if 0 ≤ (wrap64 (64 - a1)) then (some (IntKind.u64.wrap ((shl .u64 a0_0 a1) + (shr .u64 a0_1 (wrap64 (64 - a1)))),shl .u64 a0_1 a1)) else (none)) else (none))))
def backfillref01_Shl.T7 : Bool × List (List Nat × List Nat):=(true,[([],[]),([0],[0]),([],[]),([1,2],[1,2]),([],[]),([4],[4]),([],[]),([6],[6]),([5,7],[5,7]),([3,8],[3,8]),([],[]),([10],[10]),([],[]),([11,12],[11,12]),([9,13],[9,13]),([14,0,1,2,3,4,5,6,7,8,9,10,11,12,13,14],[14])])
def backfillref01_Shl.B7 : List Nat:=[0,1,0,7,0,16,0,64,240,511,0,1024,0,7168,16383,32767]
theorem backfillref01_Shl.tab7 : rtab .any (opsOf Tryz.f88 7) = backfillref01_Shl.T7:=by kernel_rfl
theorem backfillref01_Shl.bits7 : waitsOk backfillref01_Shl.T7.2 backfillref01_Shl.B7 = true:=by kernel_rfl
theorem backfillref01_Shl.calls (a0_0 : Int) (a0_1 : Int) (a1 : Int) (r1 : Int) (r2 : Int) (w : World) (h : backfillref01_Shl.f a0_0 a0_1 a1 = some (r1,r2)) :
  Calls Tryz.prog 88 #[.agg #[.int .u64 a0_0,.int .u64 a0_1],.int .i64 a1] w fun e w' => e = .returned (.agg #[.int .u64 r1,.int .u64 r2]) ∧ Below w.heap.size w w':=by
 have hu82:=Tryz.underlying82
 have HB:=Am (Below.refl w.heap.size w)
 have H : (if a1 < 1 then (some (a0_0,a0_1)) else (if a1 ≥ 128 then (some (0,0)) else (if a1 ≥ 64 then (if 0 ≤ (wrap64 (a1 - 64)) then (some (shl .u64 a0_1 (wrap64 (a1 - 64)),0)) else (none)) else (if 0 ≤ a1 then (if 0 ≤ (wrap64 (64 - a1)) then (some (IntKind.u64.wrap ((shl .u64 a0_0 a1) + (shr .u64 a0_1 (wrap64 (64 - a1)))),shl .u64 a0_1 a1)) else (none)) else (none))))) = some (r1,r2):=h
 clear h
 by_cases c3 : a1 < 1
 ·rw [if_pos c3] at H
  have c3b0 : decide (a1 < 1) = true:=decide_eq_true c3
  clear c3
  simp only [Option.some.injEq,Prod.mk.injEq] at H
  obtain ⟨rfl,rfl⟩:=H
  go_enter Tryz.func88,Tryz.ntmps88
  go_wp2_with (first | ((with_reducible refine gate_dst (N:=2) rfl ?_);refine bxA 2 #[.int .u64 a0_0,.int .u64 a0_1] 82 ?_;intro gb392 hg w4 hbox hb;have BK392:=Am (hbox);have GW392:=Am (gwA hg bA);have GE392:=Am (gwA hg bA);replace HB:=Am (below_step bA hb);clear hb hbox hg) | ((with_reducible refine gate_dst (N:=4) rfl ?_);refine bxA 4 #[.int .u64 0,.int .u64 0] 82 ?_;intro gb393 hg w5 hbox hb;have BK393:=Am (hbox);have GW393:=Am (gwA hg bA);have GE393:=Am (gwA hg bA);have NB392_393:=Am (neA (g:=gb392) hg kA);have NB393_392:=Am (neB (g:=gb392) hg kA);replace BK392:=Am (blk_below (g:=gb392) kA hb);replace HB:=Am (below_step bA hb);clear hb hbox hg;have hnb6:=NB392_393.out;have hnc6:=NB393_392.out;obtain ⟨hcz7_0,hcz7_1,hfz7_0,hfz7_1⟩:=k2 BK392.out;obtain ⟨hcz8_0,hcz8_1,hfz8_0,hfz8_1⟩:=k2 BK393.out))
  refine bodyPost_ret (results_cell_row rfl _ _ gb393 82 #[.int .u64 a0_0,.int .u64 a0_1] (0,0) _ rfl (by (with_reducible repeat (first | refine b1 ?_ _ | refine b2 ?_ | refine b3 ?_ _));refine blk_put (cs:=#[.int .u64 a0_0,.int .u64 0]) ?_ 1 _ rfl;(with_reducible repeat (first | refine b1 ?_ _ | refine b2 ?_ | refine b3 ?_ _));refine blk_put (cs:=#[.int .u64 0,.int .u64 0]) ?_ 0 _ rfl;exact kA) Tryz.underlying82 rfl (by kernel_rfl)) rfl ?_
  exact eA
 ·rw [if_neg c3] at H
  have c3b0 : decide (a1 < 1) = false:=decide_eq_false c3
  clear c3
  by_cases c9 : a1 ≥ 128
  ·rw [if_pos c9] at H
   have c9b0 : decide (128 ≤ a1) = true:=decide_eq_true c9
   clear c9
   simp only [Option.some.injEq,Prod.mk.injEq] at H
   obtain ⟨rfl,rfl⟩:=H
   go_enter Tryz.func88,Tryz.ntmps88
   go_wp2_with (first | ((with_reducible refine gate_dst (N:=2) rfl ?_);refine bxA 2 #[.int .u64 a0_0,.int .u64 a0_1] 82 ?_;intro gb392 hg w10 hbox hb;have BK392:=Am (hbox);have GW392:=Am (gwA hg bA);have GE392:=Am (gwA hg bA);replace HB:=Am (below_step bA hb);clear hb hbox hg) | ((with_reducible refine gate_dst (N:=4) rfl ?_);refine bxA 4 #[.int .u64 0,.int .u64 0] 82 ?_;intro gb393 hg w11 hbox hb;have BK393:=Am (hbox);have GW393:=Am (gwA hg bA);have GE393:=Am (gwA hg bA);have NB392_393:=Am (neA (g:=gb392) hg kA);have NB393_392:=Am (neB (g:=gb392) hg kA);replace BK392:=Am (blk_below (g:=gb392) kA hb);replace HB:=Am (below_step bA hb);clear hb hbox hg;have hnb12:=NB393_392.out;have hnc12:=NB392_393.out;obtain ⟨hcz13_0,hcz13_1,hfz13_0,hfz13_1⟩:=k2 BK393.out))
   refine bodyPost_ret (results_cell_row rfl _ _ gb393 82 #[.int .u64 0,.int .u64 0] (0,0) _ rfl (by (with_reducible repeat (first | refine b1 ?_ _ | refine b2 ?_ | refine b3 ?_ _));refine blk_put (cs:=#[.int .u64 0,.int .u64 0]) ?_ 1 _ rfl;(with_reducible repeat (first | refine b1 ?_ _ | refine b2 ?_ | refine b3 ?_ _));refine blk_put (cs:=#[.int .u64 0,.int .u64 0]) ?_ 0 _ rfl;exact kA) Tryz.underlying82 rfl (by kernel_rfl)) rfl ?_
   exact eA
  ·rw [if_neg c9] at H
   have c9b0 : decide (128 ≤ a1) = false:=decide_eq_false c9
   clear c9
   by_cases c14 : a1 ≥ 64
   ·rw [if_pos c14] at H
    have c14b0 : decide (64 ≤ a1) = true:=decide_eq_true c14
    clear c14
    obtain ⟨ji15,hji15⟩ : ∃ j_ : Int,(wrap64 (a1 - 64)) = j_:=⟨_,rfl⟩
    replace H : (if 0 ≤ (ji15) then (some (shl .u64 a0_1 (ji15),0)) else (none)) = some (r1,r2):=by first | (rw [hji15] at H;exact H) | (simp only [hji15] at H ⊢;exact H)
    have hji15w : (IntKind.i64.wrap (a1 - 64)) = ji15:=(i64_w _).trans hji15
    by_cases c16 : 0 ≤ (ji15)
    ·rw [if_pos c16] at H
     have c16b0:=eq_true c16
     have c16b1 : decide (0 ≤ (ji15)) = true:=decide_eq_true c16
     clear c16
     obtain ⟨ji17,hji17⟩ : ∃ j_ : Int,(shl .u64 a0_1 (ji15)) = j_:=⟨_,rfl⟩
     replace H : (some (ji17,0)) = some (r1,r2):=by first | (rw [hji17] at H;exact H) | (simp only [hji17] at H ⊢;exact H)
     have hji17_ : (IntKind.u64.wrap (a0_1 * 2 ^ min (ji15).toNat 64)) = ji17:=hji17
     have hji17z : (ji15) ≤ 64 → (IntKind.u64.wrap (a0_1 * 2 ^ (ji15).toNat)) = ji17:=shl_small hji17
     simp only [Option.some.injEq,Prod.mk.injEq] at H
     obtain ⟨rfl,rfl⟩:=H
     go_enter Tryz.func88,Tryz.ntmps88
     go_wp2_with (first | ((with_reducible refine gate_dst (N:=2) rfl ?_);refine bxA 2 #[.int .u64 a0_0,.int .u64 a0_1] 82 ?_;intro gb392 hg w18 hbox hb;have BK392:=Am (hbox);have GW392:=Am (gwA hg bA);have GE392:=Am (gwA hg bA);replace HB:=Am (below_step bA hb);clear hb hbox hg) | ((with_reducible refine gate_dst (N:=4) rfl ?_);refine bxA 4 #[.int .u64 0,.int .u64 0] 82 ?_;intro gb393 hg w19 hbox hb;have BK393:=Am (hbox);have GW393:=Am (gwA hg bA);have GE393:=Am (gwA hg bA);have NB392_393:=Am (neA (g:=gb392) hg kA);have NB393_392:=Am (neB (g:=gb392) hg kA);replace BK392:=Am (blk_below (g:=gb392) kA hb);replace HB:=Am (below_step bA hb);clear hb hbox hg;have hnb20:=NB392_393.out;have hnc20:=NB393_392.out;obtain ⟨hcz21_0,hcz21_1,hfz21_0,hfz21_1⟩:=k2 BK392.out;obtain ⟨hcz22_0,hcz22_1,hfz22_0,hfz22_1⟩:=k2 BK393.out))
     refine bodyPost_ret (results_cell_row rfl _ _ gb393 82 #[.int .u64 ji17,.int .u64 0] (0,0) _ rfl (by (with_reducible repeat (first | refine b1 ?_ _ | refine b2 ?_ | refine b3 ?_ _));refine blk_put (cs:=#[.int .u64 ji17,.int .u64 0]) ?_ 1 _ rfl;(with_reducible repeat (first | refine b1 ?_ _ | refine b2 ?_ | refine b3 ?_ _));refine blk_put (cs:=#[.int .u64 0,.int .u64 0]) ?_ 0 _ rfl;exact kA) Tryz.underlying82 rfl (by kernel_rfl)) rfl ?_
     exact ⟨by first | rfl | (simp [errW_none,errW_some] <;> rfl) | (simp only [← hji15,← hji17];first | rfl | (simp [errW_none,errW_some] <;> rfl)) | (simp [*,errW_none,errW_some] <;> rfl),bA⟩
    ·rw [if_neg c16] at H
     exact absurd H (by simp)
   ·rw [if_neg c14] at H
    have c14b0 : decide (64 ≤ a1) = false:=decide_eq_false c14
    clear c14
    by_cases c23 : 0 ≤ a1
    ·rw [if_pos c23] at H
     have c23b0:=eq_true c23
     have c23b1 : decide (0 ≤ a1) = true:=decide_eq_true c23
     clear c23
     obtain ⟨ji24,hji24⟩ : ∃ j_ : Int,(shl .u64 a0_0 a1) = j_:=⟨_,rfl⟩
     replace H : (if 0 ≤ (wrap64 (64 - a1)) then (some (IntKind.u64.wrap ((ji24) + (shr .u64 a0_1 (wrap64 (64 - a1)))),shl .u64 a0_1 a1)) else (none)) = some (r1,r2):=by first | (rw [hji24] at H;exact H) | (simp only [hji24] at H ⊢;exact H)
     have hji24_ : (IntKind.u64.wrap (a0_0 * 2 ^ min a1.toNat 64)) = ji24:=hji24
     have hji24z : a1 ≤ 64 → (IntKind.u64.wrap (a0_0 * 2 ^ a1.toNat)) = ji24:=shl_small hji24
     obtain ⟨ji25,hji25⟩ : ∃ j_ : Int,(wrap64 (64 - a1)) = j_:=⟨_,rfl⟩
     replace H : (if 0 ≤ (ji25) then (some (IntKind.u64.wrap ((ji24) + (shr .u64 a0_1 (ji25))),shl .u64 a0_1 a1)) else (none)) = some (r1,r2):=by first | (rw [hji25] at H;exact H) | (simp only [hji25] at H ⊢;exact H)
     have hji25w : (IntKind.i64.wrap (64 - a1)) = ji25:=(i64_w _).trans hji25
     by_cases c26 : 0 ≤ (ji25)
     ·rw [if_pos c26] at H
      have c26b0:=eq_true c26
      have c26b1 : decide (0 ≤ (ji25)) = true:=decide_eq_true c26
      clear c26
      obtain ⟨ji27,hji27⟩ : ∃ j_ : Int,(shr .u64 a0_1 (ji25)) = j_:=⟨_,rfl⟩
      replace H : (some (IntKind.u64.wrap ((ji24) + (ji27)),shl .u64 a0_1 a1)) = some (r1,r2):=by first | (rw [hji27] at H;exact H) | (simp only [hji27] at H ⊢;exact H)
      have hji27_ : (a0_1 / 2 ^ min (ji25).toNat 64) = ji27:=hji27
      have hji27z : (ji25) ≤ 64 → (a0_1 / 2 ^ (ji25).toNat) = ji27:=shr_small hji27
      have c28b0:=eq_true (of_decide_eq_true (by first | (with_reducible assumption) | assumption) : 0 ≤ a1)
      obtain ⟨ji29,hji29⟩ : ∃ j_ : Int,(shl .u64 a0_1 a1) = j_:=⟨_,rfl⟩
      replace H : (some (IntKind.u64.wrap ((ji24) + (ji27)),ji29)) = some (r1,r2):=by first | (rw [hji29] at H;exact H) | (simp only [hji29] at H ⊢;exact H)
      have hji29_ : (IntKind.u64.wrap (a0_1 * 2 ^ min a1.toNat 64)) = ji29:=hji29
      have hji29z : a1 ≤ 64 → (IntKind.u64.wrap (a0_1 * 2 ^ a1.toNat)) = ji29:=shl_small hji29
      simp only [Option.some.injEq,Prod.mk.injEq] at H
      obtain ⟨rfl,rfl⟩:=H
      go_enter Tryz.func88,Tryz.ntmps88
      try go_wp2_with (first | ((with_reducible refine gate_dst (N:=2) rfl ?_);refine bxA 2 #[.int .u64 a0_0,.int .u64 a0_1] 82 ?_;intro gb392 hg w30 hbox hb;have BK392:=Am (hbox);have GW392:=Am (gwA hg bA);have GE392:=Am (gwA hg bA);replace HB:=Am (below_step bA hb);clear hb hbox hg) | ((with_reducible refine gate_dst (N:=4) rfl ?_);refine bxA 4 #[.int .u64 0,.int .u64 0] 82 ?_;intro gb393 hg w31 hbox hb;have BK393:=Am (hbox);have GW393:=Am (gwA hg bA);have GE393:=Am (gwA hg bA);have NB392_393:=Am (neA (g:=gb392) hg kA);have NB393_392:=Am (neB (g:=gb392) hg kA);replace BK392:=Am (blk_below (g:=gb392) kA hb);replace HB:=Am (below_step bA hb);clear hb hbox hg))
      replace BK392:=Am (blk_drew BK392.out);replace BK393:=Am (blk_drew BK393.out);replace HB:=Am (below_drew1 HB.out)
      refine start_ (n:=16) (S:=fun w' => w'.cell? ⟨gb392,0,none⟩ = some (.int .u64 a0_0) ∧ w'.cell? ⟨gb392,1,none⟩ = some (.int .u64 a0_1)) (ds:=[]) #[nn,nn,nn,nn,nn,nn,nn,nn,nn,nn,nn,nn,nn,nn,nn,nn] (by kernel_rfl) rfl rfl (q2 BK392.out) (fun hHeld => ?_);refine with_tabW backfillref01_Shl.tab7 backfillref01_Shl.bits7 (fun HT_ HW_ => ?_)
      generalize w31.drew = w32 at BK392 BK393 HB hHeld ⊢
      refine pu_ 0 (some 19) #[yy,nn,nn,nn,nn,nn,nn,nn,nn,nn,nn,nn,nn,nn,nn,nn] (any_of HT_.out (by kernel_rfl)) ?_
      refine pu_ 2 (some 21) #[yy,nn,yy,nn,nn,nn,nn,nn,nn,nn,nn,nn,nn,nn,nn,nn] (any_of HT_.out (by kernel_rfl)) ?_
      refine pu_ 4 (some 23) #[yy,nn,yy,nn,yy,nn,nn,nn,nn,nn,nn,nn,nn,nn,nn,nn] (any_of HT_.out (by kernel_rfl)) ?_
      refine pu_ 6 (some 25) #[yy,nn,yy,nn,yy,nn,yy,nn,nn,nn,nn,nn,nn,nn,nn,nn] (any_of HT_.out (by kernel_rfl)) ?_
      refine pu_ 7 (some 26) #[yy,nn,yy,nn,yy,nn,yy,yy,nn,nn,nn,nn,nn,nn,nn,nn] (any_of HT_.out (by kernel_rfl)) ?_
      refine pu_ 10 (some 29) #[yy,nn,yy,nn,yy,nn,yy,yy,nn,nn,yy,nn,nn,nn,nn,nn] (any_of HT_.out (by kernel_rfl)) ?_
      refine pu_ 12 (some 31) #[yy,nn,yy,nn,yy,nn,yy,yy,nn,nn,yy,nn,yy,nn,nn,nn] (any_of HT_.out (by kernel_rfl)) ?_
      refine tk_ 1 (some 20) #[yy,yy,yy,nn,yy,nn,yy,yy,nn,nn,yy,nn,yy,nn,nn,nn] (take_ofW HT_.out HW_.out (by kernel_rfl)) hHeld ?_
      refine pu_ 3 (some 22) #[yy,yy,yy,yy,yy,nn,yy,yy,nn,nn,yy,nn,yy,nn,nn,nn] (any_of HT_.out (by kernel_rfl)) ?_
      refine tk_ 5 (some 24) #[yy,yy,yy,yy,yy,yy,yy,yy,nn,nn,yy,nn,yy,nn,nn,nn] (take_ofW HT_.out HW_.out (by kernel_rfl)) hHeld ?_
      refine pu_ 8 (some 27) #[yy,yy,yy,yy,yy,yy,yy,yy,yy,nn,yy,nn,yy,nn,nn,nn] (any_of HT_.out (by kernel_rfl)) ?_
      refine pu_ 9 (some 28) #[yy,yy,yy,yy,yy,yy,yy,yy,yy,yy,yy,nn,yy,nn,nn,nn] (any_of HT_.out (by kernel_rfl)) ?_
      refine tk_ 11 (some 30) #[yy,yy,yy,yy,yy,yy,yy,yy,yy,yy,yy,yy,yy,nn,nn,nn] (take_ofW HT_.out HW_.out (by kernel_rfl)) hHeld ?_
      refine pu_ 13 (some 32) #[yy,yy,yy,yy,yy,yy,yy,yy,yy,yy,yy,yy,yy,yy,nn,nn] (any_of HT_.out (by kernel_rfl)) ?_
      refine pu_ 14 (some 33) #[yy,yy,yy,yy,yy,yy,yy,yy,yy,yy,yy,yy,yy,yy,yy,nn] (any_of HT_.out (by kernel_rfl)) ?_
      refine one_ (i:=15) (N:=none) #[yy,yy,yy,yy,yy,yy,yy,yy,yy,yy,yy,yy,yy,yy,yy,yy] rfl rfl (one_of HT_.out (by kernel_rfl)) (by decide) (fun K hK => ?_)
      have hs33 : w32.cell? ⟨gb393,0,none⟩ = some (.int .u64 0):=(blk_cell BK393.out 0).trans rfl
      have hfs33:=blk_frozen BK393.out 0
      have hns33_0:=NB392_393.out
      have hms33_0:=NB393_392.out
      have hs34 : w32.cell? ⟨gb393,1,none⟩ = some (.int .u64 0):=(blk_cell BK393.out 1).trans rfl
      have hfs34:=blk_frozen BK393.out 1
      have hns34_0:=NB392_393.out
      have hms34_0:=NB393_392.out
      refine skip_ (w1:=?_) (by rfl) rfl ?_ ?_
      rotate_left
      ·go_simp
       rfl
      refine hK.out _ _ ⟨((cell_far (p:=⟨gb393,_,none⟩) NB392_393.out _).trans (((cell_far (p:=⟨gb393,_,none⟩) NB392_393.out _).trans (hHeld.1)))),((cell_far (p:=⟨gb393,_,none⟩) NB392_393.out _).trans (((cell_far (p:=⟨gb393,_,none⟩) NB392_393.out _).trans (hHeld.2))))⟩ (fun hHeld => ?_)
      clear hK K
      refine done_ (done_of HT_.out (by kernel_rfl)) ?_
      try go_wp2
      refine bodyPost_ret (results_cell_row rfl _ _ gb393 82 #[.int .u64 (IntKind.u64.wrap ((ji24) + (ji27))),.int .u64 ji29] (0,0) _ rfl (by (with_reducible repeat (first | refine b1 ?_ _ | refine b2 ?_ | refine b3 ?_ _));refine blk_put (cs:=#[.int .u64 (IntKind.u64.wrap ((ji24) + (ji27))),.int .u64 0]) ?_ 1 _ rfl;(with_reducible repeat (first | refine b1 ?_ _ | refine b2 ?_ | refine b3 ?_ _));refine blk_put (cs:=#[.int .u64 0,.int .u64 0]) ?_ 0 _ rfl;exact kA) Tryz.underlying82 rfl (by kernel_rfl)) rfl ?_
      exact ⟨by first | rfl | (simp [errW_none,errW_some] <;> rfl) | (simp only [← hji24,← hji25,← hji27,← hji29];first | rfl | (simp [errW_none,errW_some] <;> rfl)) | (simp [*,errW_none,errW_some] <;> rfl),bA⟩
     ·rw [if_neg c26] at H
      exact absurd H (by simp)
    ·rw [if_neg c23] at H
     exact absurd H (by simp)

def backfillref01_Div.l0 : Nat → Int → Int → Int → Int → Int → Int → Int → Option (Int × Int × Int × Bool)
 | 0,_,_,_,_,_,_,_ => none
 | k + 1,x1,x8,x9,x395000,x395001,x397000,x397001 => if x9 < 128 then ((backfillref01_Shl.f x395000 x395001 1).bind fun bt397 => ((backfillref01_Shl.f x397000 x397001 1).bind fun bt399 => (if (x8 / 9223372036854775808) = 1 then (backfillref01_Div.l0 k x1 (IntKind.u64.wrap ((IntKind.u64.wrap ((IntKind.u64.wrap (x8 * 2)) + (x395000 / 9223372036854775808))) - x1)) (wrap64 (x9 + 1)) bt397.1 bt397.2 bt399.1 (IntKind.u64.wrap (bt399.2 + 1))) else (if (IntKind.u64.wrap ((IntKind.u64.wrap (x8 * 2)) + (x395000 / 9223372036854775808))) ≥ x1 then (backfillref01_Div.l0 k x1 (IntKind.u64.wrap ((IntKind.u64.wrap ((IntKind.u64.wrap (x8 * 2)) + (x395000 / 9223372036854775808))) - x1)) (wrap64 (x9 + 1)) bt397.1 bt397.2 bt399.1 (IntKind.u64.wrap (bt399.2 + 1))) else (backfillref01_Div.l0 k x1 (IntKind.u64.wrap ((IntKind.u64.wrap (x8 * 2)) + (x395000 / 9223372036854775808))) (wrap64 (x9 + 1)) bt397.1 bt397.2 bt399.1 bt399.2))))) else (some (x397000,x397001,x8,true))
def backfillref01_Div.f (k : Nat) (a0_0 : Int) (a0_1 : Int) (a1 : Int) : Option (Int × Int × Int × Bool):=if a1 = 0 then (some (0,0,0,false)) else (backfillref01_Div.l0 k a1 0 0 a0_0 a0_1 0 0)
theorem backfillref01_Div.mono_l : ∀ k,(∀ y0 y1 y2 y3 y4 y5 y6,LeO (backfillref01_Div.l0 k y0 y1 y2 y3 y4 y5 y6) (backfillref01_Div.l0 (k + 1) y0 y1 y2 y3 y4 y5 y6))
 | 0 => fun _ _ _ _ _ _ _ r h => by simp [backfillref01_Div.l0] at h
 | k + 1 => by
  have ih0:=backfillref01_Div.mono_l k
  ·intro y0 y1 y2 y3 y4 y5 y6
   unfold backfillref01_Div.l0
   repeat' first
   | (with_reducible exact ih0 _ _ _ _ _ _ _)
   | (with_reducible exact LeO.refl _)
   | (with_reducible exact LeO.none _)
   | (with_reducible refine LeO.ite ?_ ?_)
   | (with_reducible refine LeO.bind ?_ (fun _ => ?_))
   | exact ih0 _ _ _ _ _ _ _
   | exact LeO.none _
   | refine LeO.ite ?_ ?_
   | refine LeO.bind ?_ (fun _ => ?_)
theorem backfillref01_Div.mono : ∀ a0 a1 a2 k,LeO (backfillref01_Div.f k a0 a1 a2) (backfillref01_Div.f (k + 1) a0 a1 a2):=by
 intro a0 a1 a2 k
 have ih0:=backfillref01_Div.mono_l k
 unfold backfillref01_Div.f
 repeat' first
   | (with_reducible exact ih0 _ _ _ _ _ _ _)
   | (with_reducible exact LeO.refl _)
   | (with_reducible exact LeO.none _)
   | (with_reducible refine LeO.ite ?_ ?_)
   | (with_reducible refine LeO.bind ?_ (fun _ => ?_))
   | exact ih0 _ _ _ _ _ _ _
   | exact LeO.none _
   | refine LeO.ite ?_ ?_
   | refine LeO.bind ?_ (fun _ => ?_)
theorem backfillref01_Div.calls (k : Nat) (a0_0 : Int) (a0_1 : Int) (a1 : Int) (r1 : Int) (r2 : Int) (r3 : Int) (r4 : Bool) (w : World) (h : backfillref01_Div.f k a0_0 a0_1 a1 = some (r1,r2,r3,r4)) :
  Calls Tryz.prog 56 #[.agg #[.int .u64 a0_0,.int .u64 a0_1],.int .u64 a1] w fun e w' => e = .returned (.tuple #[.agg #[.int .u64 r1,.int .u64 r2],.int .u64 r3,.bool r4]) ∧ Below w.heap.size w w':=by
 have hu82:=Tryz.underlying82
 have HB:=Am (Below.refl w.heap.size w)
 have H : (if a1 = 0 then (some (0,0,0,false)) else (backfillref01_Div.l0 k a1 0 0 a0_0 a0_1 0 0)) = some (r1,r2,r3,r4):=h
 clear h
 by_cases c3 : a1 = 0
 ·rw [if_pos c3] at H
  have c3b0 : (a1 == 0) = true:=beq_iff_eq.mpr c3
  have c3b1 : (a1 != 0) = false:=bne_eq_false_iff_eq.mpr c3
  clear c3
  simp only [Option.some.injEq,Prod.mk.injEq] at H
  obtain ⟨rfl,rfl,rfl,rfl⟩:=H
  go_enter Tryz.func56,Tryz.ntmps56
  go_wp2_with (first | ((with_reducible refine gate_dst (N:=2) rfl ?_);refine bxA 2 #[.int .u64 a0_0,.int .u64 a0_1] 82 ?_;intro gb394 hg w4 hbox hb;have BK394:=Am (hbox);have GW394:=Am (gwA hg bA);have GE394:=Am (gwA hg bA);replace HB:=Am (below_step bA hb);clear hb hbox hg) | ((with_reducible refine gate_dst (N:=4) rfl ?_);refine bxA 4 #[.int .u64 0,.int .u64 0] 82 ?_;intro gb395 hg w5 hbox hb;have BK395:=Am (hbox);have GW395:=Am (gwA hg bA);have GE395:=Am (gwA hg bA);have NB394_395:=Am (neA (g:=gb394) hg kA);have NB395_394:=Am (neB (g:=gb394) hg kA);replace BK394:=Am (blk_below (g:=gb394) kA hb);replace HB:=Am (below_step bA hb);clear hb hbox hg;have hnb6:=NB395_394.out;have hnc6:=NB394_395.out;obtain ⟨hcz7_0,hcz7_1,hfz7_0,hfz7_1⟩:=k2 BK395.out))
  refine bodyPost_ret (results_ctt rfl _ _ gb395 82 #[.int .u64 0,.int .u64 0] (0,0) _ rfl (by (with_reducible repeat (first | refine b1 ?_ _ | refine b2 ?_ | refine b3 ?_ _));refine blk_put (cs:=#[.int .u64 0,.int .u64 0]) ?_ 1 _ rfl;(with_reducible repeat (first | refine b1 ?_ _ | refine b2 ?_ | refine b3 ?_ _));refine blk_put (cs:=#[.int .u64 0,.int .u64 0]) ?_ 0 _ rfl;exact kA) Tryz.underlying82 rfl (by kernel_rfl)) rfl ?_
  exact eA
 ·rw [if_neg c3] at H
  have c3b0 : (a1 == 0) = false:=beq_eq_false_iff_ne.mpr c3
  have c3b1 : (a1 != 0) = true:=bne_iff_ne.mpr c3
  have H':=Aside0.mk H
  clear H
  go_enter Tryz.func56,Tryz.ntmps56
  go_wp2_with (first | ((with_reducible refine gate_dst (N:=2) rfl ?_);refine bxA 2 #[.int .u64 a0_0,.int .u64 a0_1] 82 ?_;intro gb394 hg w8 hbox hb;have BK394:=Am (hbox);have GW394:=Am (gwA hg bA);have GE394:=Am (gwA hg bA);replace HB:=Am (below_step bA hb);clear hb hbox hg) | ((with_reducible refine gate_dst (N:=4) rfl ?_);refine bxA 4 #[.int .u64 0,.int .u64 0] 82 ?_;intro gb395 hg w9 hbox hb;have BK395:=Am (hbox);have GW395:=Am (gwA hg bA);have GE395:=Am (gwA hg bA);have NB394_395:=Am (neA (g:=gb394) hg kA);have NB395_394:=Am (neB (g:=gb394) hg kA);replace BK394:=Am (blk_below (g:=gb394) kA hb);replace HB:=Am (below_step bA hb);clear hb hbox hg) | ((with_reducible refine gate_dst (N:=7) rfl ?_);refine bxA 7 #[.int .u64 0,.int .u64 0] 82 ?_;intro gb396 hg w10 hbox hb;have BK396:=Am (hbox);have GW396:=Am (gwA hg bA);have GE396:=Am (gwA hg bA);have NB394_396:=Am (neA (g:=gb394) hg kA);have NB396_394:=Am (neB (g:=gb394) hg kA);have NB395_396:=Am (neA (g:=gb395) hg kA);have NB396_395:=Am (neB (g:=gb395) hg kA);replace BK394:=Am (blk_below (g:=gb394) kA hb);replace BK395:=Am (blk_below (g:=gb395) kA hb);replace HB:=Am (below_step bA hb);clear hb hbox hg;have hnb11:=NB396_394.out;have hnc11:=NB394_396.out;have hnb12:=NB396_395.out;have hnc12:=NB395_396.out;obtain ⟨hcz13_0,hcz13_1,hfz13_0,hfz13_1⟩:=k2 BK396.out))
  go_loopg [8,9] k (fun kq v8 v9 w' => ∃ (x8_1 : Int) (x9_1 : Int) (x395000_1 : Int) (x395001_1 : Int) (x397000_1 : Int) (x397001_1 : Int),v8 = .int .u64 x8_1 ∧ v9 = .int .i64 x9_1 ∧ Aside0 (backfillref01_Div.l0 kq a1 x8_1 x9_1 x395000_1 x395001_1 x397000_1 x397001_1 = some (r1,r2,r3,r4)) ∧ Aside0 (kq ≤ k) ∧ Aside0 (w'.heap[gb394]? = some (.cells #[.int .u64 x395000_1,.int .u64 x395001_1] 82 (0,0))) ∧ Aside0 (w'.heap[gb395]? = some (.cells #[.int .u64 0,.int .u64 0] 82 (0,0))) ∧ Aside0 (w'.heap[gb396]? = some (.cells #[.int .u64 x397000_1,.int .u64 x397001_1] 82 (0,0))) ∧ Aside0 (Below w.heap.size w w'))
  case atStart => exact ⟨(0),(0),(a0_0),(a0_1),(0),(0),(by first | rfl | (simp;done) | (simp [*];done)),(by first | rfl | (simp;done) | (simp [*];done)),H',⟨Nat.le_refl _⟩,⟨kF⟩,⟨kF⟩,⟨by (with_reducible repeat (first | refine b1 ?_ _ | refine b2 ?_ | refine b3 ?_ _));refine blk_put (cs:=#[.int .u64 0,.int .u64 0]) ?_ 1 _ rfl;(with_reducible repeat (first | refine b1 ?_ _ | refine b2 ?_ | refine b3 ?_ _));refine blk_put (cs:=#[.int .u64 0,.int .u64 0]) ?_ 0 _ rfl;exact kA⟩,⟨bA⟩⟩
  case round =>
   clear H'
   try clear c1
   try clear p2
   try clear c3
   try clear c3b0
   try clear c3b1
   try clear c5
   try clear c6
   try clear c11
   try clear c12
   try clear hcz13_0
   try clear hcz13_1
   try clear hcz7_0
   try clear hcz7_1
   try clear hfz13_0
   try clear hfz13_1
   try clear hfz7_0
   try clear hfz7_1
   obtain ⟨x8_1,x9_1,x395000_1,x395001_1,x397000_1,x397001_1,rfl,rfl,HA,HK1,BK394,BK395,BK396,HB⟩:=hrel
   cases gk with
   | zero => exact absurd HA.out (by simp [backfillref01_Div.l0])
   | succ k1 =>
    have H:=HA.out
    clear HA
    simp only [backfillref01_Div.l0] at H
    by_cases c14 : x9_1 < 128
    ·rw [if_pos c14] at H
     have c14b0 : decide (x9_1 < 128) = true:=decide_eq_true c14
     clear c14;obtain ⟨⟨t397,t398⟩,A15,H⟩:=bnd H;(try dsimp only at H);obtain ⟨⟨t399,t400⟩,A16,H⟩:=bnd H;(try dsimp only at H)
     by_cases c17 : (x8_1 / 9223372036854775808) = 1
     ·rw [if_pos c17] at H
      have c17b0 : ((x8_1 / 9223372036854775808) == 1) = true:=beq_iff_eq.mpr c17
      have c17b1 : ((x8_1 / 9223372036854775808) != 1) = false:=bne_eq_false_iff_eq.mpr c17
      clear c17
      have H':=Aside0.mk H
      clear H
      have hnb18:=NB394_395.out
      have hnc18:=NB395_394.out
      have hnb19:=NB394_396.out
      have hnc19:=NB396_394.out
      obtain ⟨hcz20_0,hcz20_1,hfz20_0,hfz20_1⟩:=k2 BK394.out
      go_wp2_with (first | ((with_reducible refine gate_callee (f:=88) rfl ?_);refine goesL_ (some 29) rfl rfl Tryz.func88 (by kernel_rfl) rfl #[.agg #[.int .u64 x395000_1,.int .u64 x395001_1],.int .i64 1] rfl aA ?_;(with_reducible refine (backfillref01_Shl.calls x395000_1 x395001_1 1 t397 t398 _ A15.out).mono ?_);rintro e w21 ⟨rfl,hb⟩;refine ⟨_,rfl,?_⟩;replace BK394:=Am (blk_below (g:=gb394) kA hb);replace BK395:=Am (blk_below (g:=gb395) kA hb);replace BK396:=Am (blk_below (g:=gb396) kA hb);replace HB:=Am (below_step bA hb);(try clear hb);obtain ⟨hcz22_0,hcz22_1,hfz22_0,hfz22_1⟩:=k2 BK394.out;have hnb23:=NB396_395.out;have hnc23:=NB395_396.out;obtain ⟨hcz24_0,hcz24_1,hfz24_0,hfz24_1⟩:=k2 BK396.out) | ((with_reducible refine gate_callee (f:=88) rfl ?_);refine goesL_ (some 31) rfl rfl Tryz.func88 (by kernel_rfl) rfl #[.agg #[.int .u64 x397000_1,.int .u64 x397001_1],.int .i64 1] rfl aA ?_;(with_reducible refine (backfillref01_Shl.calls x397000_1 x397001_1 1 t399 t400 _ A16.out).mono ?_);rintro e w25 ⟨rfl,hb⟩;refine ⟨_,rfl,?_⟩;replace BK394:=Am (blk_below (g:=gb394) (o:=.cells #[.int .u64 t397,.int .u64 t398] 82 (0,0)) (by (with_reducible repeat (first | refine b1 ?_ _ | refine b2 ?_ | refine b3 ?_ _));refine blk_put (cs:=#[.int .u64 t397,.int .u64 x395001_1]) ?_ 1 _ rfl;(with_reducible repeat (first | refine b1 ?_ _ | refine b2 ?_ | refine b3 ?_ _));refine blk_put (cs:=#[.int .u64 x395000_1,.int .u64 x395001_1]) ?_ 0 _ rfl;exact kA) hb);replace BK395:=Am (blk_below (g:=gb395) (o:=.cells #[.int .u64 0,.int .u64 0] 82 (0,0)) kF hb);replace BK396:=Am (blk_below (g:=gb396) (o:=.cells #[.int .u64 x397000_1,.int .u64 x397001_1] 82 (0,0)) kF hb);replace HB:=Am (below_step bA hb);(try clear hb);obtain ⟨hcz26_0,hcz26_1,hfz26_0,hfz26_1⟩:=k2 BK396.out))
      go_roundg k1
      case measure => have:=HK1.out;omega
      case rel => exact ⟨(IntKind.u64.wrap ((IntKind.u64.wrap ((IntKind.u64.wrap (x8_1 * 2)) + (x395000_1 / 9223372036854775808))) - a1)),(wrap64 (x9_1 + 1)),(t397),(t398),(t399),(IntKind.u64.wrap (t400 + 1)),(by first | rfl | (simp;done) | (simp [*];done)),(by first | rfl | (simp;done) | (simp [*];done)),H',⟨by have:=HK1.out;omega⟩,⟨kF⟩,⟨kF⟩,⟨by (with_reducible repeat (first | refine b1 ?_ _ | refine b2 ?_ | refine b3 ?_ _));refine blk_put (cs:=#[.int .u64 t399,.int .u64 t400]) ?_ 1 _ rfl;(with_reducible repeat (first | refine b1 ?_ _ | refine b2 ?_ | refine b3 ?_ _));refine blk_put (cs:=#[.int .u64 t399,.int .u64 x397001_1]) ?_ 1 _ rfl;(with_reducible repeat (first | refine b1 ?_ _ | refine b2 ?_ | refine b3 ?_ _));refine blk_put (cs:=#[.int .u64 x397000_1,.int .u64 x397001_1]) ?_ 0 _ rfl;exact kA⟩,⟨bA⟩⟩
     ·rw [if_neg c17] at H
      have c17b0 : ((x8_1 / 9223372036854775808) == 1) = false:=beq_eq_false_iff_ne.mpr c17
      have c17b1 : ((x8_1 / 9223372036854775808) != 1) = true:=bne_iff_ne.mpr c17
      by_cases c27 : (IntKind.u64.wrap ((IntKind.u64.wrap (x8_1 * 2)) + (x395000_1 / 9223372036854775808))) ≥ a1
      ·rw [if_pos c27] at H
       have c27b0 : decide (a1 ≤ (IntKind.u64.wrap ((IntKind.u64.wrap (x8_1 * 2)) + (x395000_1 / 9223372036854775808)))) = true:=decide_eq_true c27
       clear c27
       have H':=Aside0.mk H
       clear H
       have hnb28:=NB394_395.out
       have hnc28:=NB395_394.out
       have hnb29:=NB394_396.out
       have hnc29:=NB396_394.out
       obtain ⟨hcz30_0,hcz30_1,hfz30_0,hfz30_1⟩:=k2 BK394.out
       go_wp2_with (first | ((with_reducible refine gate_callee (f:=88) rfl ?_);refine goesL_ (some 29) rfl rfl Tryz.func88 (by kernel_rfl) rfl #[.agg #[.int .u64 x395000_1,.int .u64 x395001_1],.int .i64 1] rfl aA ?_;(with_reducible refine (backfillref01_Shl.calls x395000_1 x395001_1 1 t397 t398 _ A15.out).mono ?_);rintro e w31 ⟨rfl,hb⟩;refine ⟨_,rfl,?_⟩;replace BK394:=Am (blk_below (g:=gb394) kA hb);replace BK395:=Am (blk_below (g:=gb395) kA hb);replace BK396:=Am (blk_below (g:=gb396) kA hb);replace HB:=Am (below_step bA hb);(try clear hb);obtain ⟨hcz32_0,hcz32_1,hfz32_0,hfz32_1⟩:=k2 BK394.out;have hnb33:=NB396_395.out;have hnc33:=NB395_396.out;obtain ⟨hcz34_0,hcz34_1,hfz34_0,hfz34_1⟩:=k2 BK396.out) | ((with_reducible refine gate_callee (f:=88) rfl ?_);refine goesL_ (some 31) rfl rfl Tryz.func88 (by kernel_rfl) rfl #[.agg #[.int .u64 x397000_1,.int .u64 x397001_1],.int .i64 1] rfl aA ?_;(with_reducible refine (backfillref01_Shl.calls x397000_1 x397001_1 1 t399 t400 _ A16.out).mono ?_);rintro e w35 ⟨rfl,hb⟩;refine ⟨_,rfl,?_⟩;replace BK394:=Am (blk_below (g:=gb394) (o:=.cells #[.int .u64 t397,.int .u64 t398] 82 (0,0)) (by (with_reducible repeat (first | refine b1 ?_ _ | refine b2 ?_ | refine b3 ?_ _));refine blk_put (cs:=#[.int .u64 t397,.int .u64 x395001_1]) ?_ 1 _ rfl;(with_reducible repeat (first | refine b1 ?_ _ | refine b2 ?_ | refine b3 ?_ _));refine blk_put (cs:=#[.int .u64 x395000_1,.int .u64 x395001_1]) ?_ 0 _ rfl;exact kA) hb);replace BK395:=Am (blk_below (g:=gb395) (o:=.cells #[.int .u64 0,.int .u64 0] 82 (0,0)) kF hb);replace BK396:=Am (blk_below (g:=gb396) (o:=.cells #[.int .u64 x397000_1,.int .u64 x397001_1] 82 (0,0)) kF hb);replace HB:=Am (below_step bA hb);(try clear hb);obtain ⟨hcz36_0,hcz36_1,hfz36_0,hfz36_1⟩:=k2 BK396.out))
       go_roundg k1
       case measure => have:=HK1.out;omega
       case rel => exact ⟨(IntKind.u64.wrap ((IntKind.u64.wrap ((IntKind.u64.wrap (x8_1 * 2)) + (x395000_1 / 9223372036854775808))) - a1)),(wrap64 (x9_1 + 1)),(t397),(t398),(t399),(IntKind.u64.wrap (t400 + 1)),(by first | rfl | (simp;done) | (simp [*];done)),(by first | rfl | (simp;done) | (simp [*];done)),H',⟨by have:=HK1.out;omega⟩,⟨kF⟩,⟨kF⟩,⟨by (with_reducible repeat (first | refine b1 ?_ _ | refine b2 ?_ | refine b3 ?_ _));refine blk_put (cs:=#[.int .u64 t399,.int .u64 t400]) ?_ 1 _ rfl;(with_reducible repeat (first | refine b1 ?_ _ | refine b2 ?_ | refine b3 ?_ _));refine blk_put (cs:=#[.int .u64 t399,.int .u64 x397001_1]) ?_ 1 _ rfl;(with_reducible repeat (first | refine b1 ?_ _ | refine b2 ?_ | refine b3 ?_ _));refine blk_put (cs:=#[.int .u64 x397000_1,.int .u64 x397001_1]) ?_ 0 _ rfl;exact kA⟩,⟨bA⟩⟩
      ·rw [if_neg c27] at H
       have c27b0 : decide (a1 ≤ (IntKind.u64.wrap ((IntKind.u64.wrap (x8_1 * 2)) + (x395000_1 / 9223372036854775808)))) = false:=decide_eq_false c27
       clear c27
       have H':=Aside0.mk H
       clear H
       have hnb37:=NB394_395.out
       have hnc37:=NB395_394.out
       have hnb38:=NB394_396.out
       have hnc38:=NB396_394.out
       obtain ⟨hcz39_0,hcz39_1,hfz39_0,hfz39_1⟩:=k2 BK394.out
       go_wp2_with (first | ((with_reducible refine gate_callee (f:=88) rfl ?_);refine goesL_ (some 29) rfl rfl Tryz.func88 (by kernel_rfl) rfl #[.agg #[.int .u64 x395000_1,.int .u64 x395001_1],.int .i64 1] rfl aA ?_;(with_reducible refine (backfillref01_Shl.calls x395000_1 x395001_1 1 t397 t398 _ A15.out).mono ?_);rintro e w40 ⟨rfl,hb⟩;refine ⟨_,rfl,?_⟩;replace BK394:=Am (blk_below (g:=gb394) kA hb);replace BK395:=Am (blk_below (g:=gb395) kA hb);replace BK396:=Am (blk_below (g:=gb396) kA hb);replace HB:=Am (below_step bA hb);(try clear hb);obtain ⟨hcz41_0,hcz41_1,hfz41_0,hfz41_1⟩:=k2 BK394.out;have hnb42:=NB396_395.out;have hnc42:=NB395_396.out;obtain ⟨hcz43_0,hcz43_1,hfz43_0,hfz43_1⟩:=k2 BK396.out) | ((with_reducible refine gate_callee (f:=88) rfl ?_);refine goesL_ (some 31) rfl rfl Tryz.func88 (by kernel_rfl) rfl #[.agg #[.int .u64 x397000_1,.int .u64 x397001_1],.int .i64 1] rfl aA ?_;(with_reducible refine (backfillref01_Shl.calls x397000_1 x397001_1 1 t399 t400 _ A16.out).mono ?_);rintro e w44 ⟨rfl,hb⟩;refine ⟨_,rfl,?_⟩;replace BK394:=Am (blk_below (g:=gb394) (o:=.cells #[.int .u64 t397,.int .u64 t398] 82 (0,0)) (by (with_reducible repeat (first | refine b1 ?_ _ | refine b2 ?_ | refine b3 ?_ _));refine blk_put (cs:=#[.int .u64 t397,.int .u64 x395001_1]) ?_ 1 _ rfl;(with_reducible repeat (first | refine b1 ?_ _ | refine b2 ?_ | refine b3 ?_ _));refine blk_put (cs:=#[.int .u64 x395000_1,.int .u64 x395001_1]) ?_ 0 _ rfl;exact kA) hb);replace BK395:=Am (blk_below (g:=gb395) (o:=.cells #[.int .u64 0,.int .u64 0] 82 (0,0)) kF hb);replace BK396:=Am (blk_below (g:=gb396) (o:=.cells #[.int .u64 x397000_1,.int .u64 x397001_1] 82 (0,0)) kF hb);replace HB:=Am (below_step bA hb);(try clear hb);obtain ⟨hcz45_0,hcz45_1,hfz45_0,hfz45_1⟩:=k2 BK396.out))
       go_roundg k1
       case measure => have:=HK1.out;omega
       case rel => exact ⟨(IntKind.u64.wrap ((IntKind.u64.wrap (x8_1 * 2)) + (x395000_1 / 9223372036854775808))),(wrap64 (x9_1 + 1)),(t397),(t398),(t399),(t400),(by first | rfl | (simp;done) | (simp [*];done)),(by first | rfl | (simp;done) | (simp [*];done)),H',⟨by have:=HK1.out;omega⟩,⟨kF⟩,⟨kF⟩,⟨by (with_reducible repeat (first | refine b1 ?_ _ | refine b2 ?_ | refine b3 ?_ _));refine blk_put (cs:=#[.int .u64 t399,.int .u64 x397001_1]) ?_ 1 _ rfl;(with_reducible repeat (first | refine b1 ?_ _ | refine b2 ?_ | refine b3 ?_ _));refine blk_put (cs:=#[.int .u64 x397000_1,.int .u64 x397001_1]) ?_ 0 _ rfl;exact kA⟩,⟨bA⟩⟩
    ·rw [if_neg c14] at H
     have c14b0 : decide (x9_1 < 128) = false:=decide_eq_false c14
     clear c14
     simp only [Option.some.injEq,Prod.mk.injEq] at H
     obtain ⟨rfl,rfl,rfl,rfl⟩:=H
     have hnb46:=NB396_394.out
     have hnc46:=NB394_396.out
     have hnb47:=NB396_395.out
     have hnc47:=NB395_396.out
     obtain ⟨hcz48_0,hcz48_1,hfz48_0,hfz48_1⟩:=k2 BK396.out
     have hnb49:=NB395_394.out
     have hnc49:=NB394_395.out
     obtain ⟨hcz50_0,hcz50_1,hfz50_0,hfz50_1⟩:=k2 BK395.out
     go_wp2
     refine bodyPost_ret (results_ctt rfl _ _ gb395 82 #[.int .u64 x397000_1,.int .u64 x397001_1] (0,0) _ rfl (by (with_reducible repeat (first | refine b1 ?_ _ | refine b2 ?_ | refine b3 ?_ _));refine blk_put (cs:=#[.int .u64 x397000_1,.int .u64 0]) ?_ 1 _ rfl;(with_reducible repeat (first | refine b1 ?_ _ | refine b2 ?_ | refine b3 ?_ _));refine blk_put (cs:=#[.int .u64 0,.int .u64 0]) ?_ 0 _ rfl;exact kA) Tryz.underlying82 rfl (by kernel_rfl)) rfl ?_
     exact eA

def backfillref13_used.f (k : Nat) (a0 : Int) (a1 : Int) : Option (Int):=(backfillref01_Mul.f a0 9223372036854775808).bind fun bt401 => ((backfillref01_Div.f k bt401.1 bt401.2 a1).bind fun bt403 => (some bt403.2.1))
theorem backfillref13_used.mono : ∀ a0 a1 k,LeO (backfillref13_used.f k a0 a1) (backfillref13_used.f (k + 1) a0 a1):=by
 intro a0 a1 k
 unfold backfillref13_used.f
 repeat' first
   | (with_reducible exact backfillref01_Div.mono _ _ _ _)
   | (with_reducible exact LeO.refl _)
   | (with_reducible exact LeO.none _)
   | (with_reducible refine LeO.ite ?_ ?_)
   | (with_reducible refine LeO.bind ?_ (fun _ => ?_))
   | exact backfillref01_Div.mono _ _ _ _
   | exact LeO.none _
   | refine LeO.ite ?_ ?_
   | refine LeO.bind ?_ (fun _ => ?_)
theorem backfillref13_used.calls (k : Nat) (a0 : Int) (a1 : Int) (r : Int) (w : World) (h : backfillref13_used.f k a0 a1 = some r) :
  Calls Tryz.prog 55 #[.int .u64 a0,.int .u64 a1] w fun e w' => e = .returned (.int .u64 r) ∧ Below w.heap.size w w':=by
 have hu82:=Tryz.underlying82
 have HB:=Am (Below.refl w.heap.size w)
 have H : ((backfillref01_Mul.f a0 9223372036854775808).bind fun bt401 => ((backfillref01_Div.f k bt401.1 bt401.2 a1).bind fun bt403 => (some bt403.2.1))) = some r:=h
 clear h;obtain ⟨⟨t401,t402⟩,A3,H⟩:=bnd H;(try dsimp only at H);obtain ⟨⟨t403,t404,t405,t406⟩,A4,H⟩:=bnd H;(try dsimp only at H)
 obtain rfl:=Option.some.inj H
 go_enter Tryz.func55,Tryz.ntmps55
 go_wp2_with (first | ((with_reducible refine gate_callee (f:=57) rfl ?_);refine goesL_ (some 10) rfl rfl Tryz.func57 (by kernel_rfl) rfl #[.int .u64 a0,.int .u64 9223372036854775808] rfl aA ?_;(with_reducible refine (backfillref01_Mul.calls a0 9223372036854775808 t401 t402 _ A3.out).mono ?_);rintro e w5 ⟨rfl,hb⟩;refine ⟨_,rfl,?_⟩;replace HB:=Am (below_step bA hb);(try clear hb)) | ((with_reducible refine gate_callee (f:=56) rfl ?_);refine goesL_ (some 12) rfl rfl Tryz.func56 (by kernel_rfl) rfl #[.agg #[.int .u64 t401,.int .u64 t402],.int .u64 a1] rfl aA ?_;(with_reducible refine (backfillref01_Div.calls k t401 t402 a1 t403 t404 t405 t406 _ A4.out).mono ?_);rintro e w6 ⟨rfl,hb⟩;refine ⟨_,rfl,?_⟩;replace HB:=Am (below_step bA hb);(try clear hb)) | ((with_reducible refine gate_dst (N:=5) rfl ?_);refine bxA 5 #[.int .u64 0,.int .u64 0] 82 ?_;intro gb407 hg w7 hbox hb;have BK407:=Am (hbox);have GW407:=Am (gwA hg bA);have GE407:=Am (gwA hg bA);replace HB:=Am (below_step bA hb);clear hb hbox hg;obtain ⟨hcz8_0,hcz8_1,hfz8_0,hfz8_1⟩:=k2 BK407.out))
 go_ret
 exact eA

end Go.Proofs.YtbhijfbjdbjpbaaGreatDoor.GSH
namespace Go.Proofs.YtbhijfbjdbjpbaaGreatDoor.T
open Go.RowKit Go.Proofs.YtbhijfbjdbjpbaaGreatDoorW.PrintWords Go.Proofs.YtbhijfbjdbjpbaaGreatDoorW.PrintLast Go.Proofs.YtbhijfbjdbjpbaaGreatDoor.H Go.Maps Go.Proofs.YtbhijfbjdbjpbaaGreatDoor.Q Go.Proofs.YtbhijfbjdbjpbaaGreatDoor.GSH
set_option linter.unusedVariables false
set_option linter.unusedSimpArgs false
theorem refload_calls (w : World) (A : Option Addr) (n c : Nat) (ls : List Acc) (hr : Rd Ec w A n ls) (hok : AccOk ls) :
    Calls Tryz.prog 36 #[.slice A n c] w (LoadI w ls):=by
  cases ls with
  | nil => obtain rfl : n = 0:=hr.1.symm;exact rload_nil w A c
  | cons x r =>
    obtain ⟨ad,e,_⟩:=hr.2.2 (by have:=hr.1;simp at this;omega)
    subst e
    cases hf : accEq (zeroU x) rootA with
    | false => exact rload_first w ad n c x r hr hf
    | true => exact rload_calls w ad n c x r hr hok hf
theorem rcheck_calls (w : World) (a0 a1 a2 a3 a4 a5 a6 a7 : Int) : Calls Tryz.prog 25 #[.agg #[.int .i64 a0,.int .i64 a1,.int .i64 a2,.int .i64 a3,.int .i64 a4,.int .i64 a5,.int .i64 a6,.int .i64 a7]] w fun e w' => e = .returned (.int .i64 (checkV a0 a1 a2 a3 a4 a5 a6 a7)) ∧ w.grownBy w' none:=
  (backfillref11_Check.calls 20 a0 a1 a2 a3 a4 a5 a6 a7 _ w (r_check 20 (by omega) a0 a1 a2 a3 a4 a5 a6 a7)).mono (fun e w' h => ⟨h.1,gb_of_below h.2 none⟩)
theorem rfloor_f (N Q L A F S P H : Int) : backfillref11_Floor.f 20 N Q L A F S P H = some (floorV N Q L A F S P H):=by
  unfold backfillref11_Floor.f floorV
  refine bind_of (r_check 20 (by omega) N Q L A F S P H) ?_
  by_cases h : checkV N Q L A F S P H = 0
  · rw [if_pos h,if_pos h]
    refine bind_of (r_C (bds (inR_cfg (check_cfg h)))) ?_
    have:=floor_bd h
    rw [w64_in (x:=N * P) (by omega) (by omega),w64_in (by omega) (by omega)]
  · rw [if_neg h,if_neg h]
theorem rfloor_calls (w : World) (a0 a1 a2 a3 a4 a5 a6 a7 : Int) : Calls Tryz.prog 28 #[.agg #[.int .i64 a0,.int .i64 a1,.int .i64 a2,.int .i64 a3,.int .i64 a4,.int .i64 a5,.int .i64 a6,.int .i64 a7]] w fun e w' => e = .returned (.int .u64 (floorV a0 a1 a2 a3 a4 a5 a6 a7)) ∧ w.grownBy w' none:=
  (backfillref11_Floor.calls 20 a0 a1 a2 a3 a4 a5 a6 a7 _ w (rfloor_f a0 a1 a2 a3 a4 a5 a6 a7)).mono (fun e w' h => ⟨h.1,gb_of_below h.2 none⟩)
end Go.Proofs.YtbhijfbjdbjpbaaGreatDoor.T
namespace Go.Proofs.YtbhijfbjdbjpbaaGreatDoor.GSH
open Go.RowKit Go.Proofs.YtbhijfbjdbjpbaaGreatDoorW.PrintWords Go.Proofs.YtbhijfbjdbjpbaaGreatDoorW.PrintLast Go.Proofs.YtbhijfbjdbjpbaaGreatDoorW.PrintMore
attribute [local go_sem] max2_int min2_int max_two min_two max_three min_three max_four min_four   -- for this text's walks alone
set_option linter.unusedVariables false
set_option linter.unusedSimpArgs false
def backfillref13_effective.f : Nat → List (S32) → List Int → Int → Int → Option (Int)
 | 0,_,_,_,_ => none
 | k + 1,l0,l1,a2,a3 => (backfillref13_Sum.f k l0 l1 a3).bind fun t408 => ((backfillref13_used.f k t408 a2).bind fun t409 => (if 0 ≤ a3 then (if a3 < (l0.length : Int) then (if ((rd_T32 l0 a3).f1) < 0 then (some t409) else ((backfillref13_effective.f k l0 l1 a2 ((rd_T32 l0 a3).f1)).bind fun t411 => ((backfillref01_Mul.f (IntKind.u64.wrap (t411 - t409)) (IntKind.u64.wrap ((rd_T32 l0 a3).f2))).bind fun bt413 => ((backfillref13_Together.f k l0 ((rd_T32 l0 a3).f1)).bind fun t415 => ((backfillref01_Div.f k bt413.1 bt413.2 (IntKind.u64.wrap (t415))).bind fun bt416 => (some (IntKind.u64.wrap (t409 + bt416.2.1)))))))) else (none)) else (none)))
theorem backfillref13_effective.calls (k : Nat) : ∀ (A0 : Option Addr) (c0 : Nat) (l0 : List (S32)) (A1 : Option Addr) (c1 : Nat) (l1 : List Int) (a2 : Int) (a3 : Int) (r : Int) (w : World) (hr0 : Kd.C k32 w A0 l0.length l0) (hc0 : l0.length ≤ c0) (hr1 : Kd.C (Kd.int .u64) w A1 l1.length l1) (hc1 : l1.length ≤ c1) (h : backfillref13_effective.f k l0 l1 a2 a3 = some r),
  Calls Tryz.prog 29 #[.slice A0 l0.length c0,.slice A1 l1.length c1,.int .u64 a2,.int .i64 a3] w fun e w' => e = .returned (.int .u64 r) ∧ Below w.heap.size w w':=by
 induction k using Nat.strongRecOn with
 | _ k ih =>
 intro A0 c0 l0 A1 c1 l1 a2 a3 r w hr0 hc0 hr1 hc1 h
 cases k with
 | zero => exact absurd h (by simp [backfillref13_effective.f])
 | succ k =>
 simp only [backfillref13_effective.f] at h
 have hu82:=Tryz.underlying82
 have HR0:=Aside0.mk hr0
 have HC0:=Aside0.mk hc0
 clear hr0 hc0
 have HR1:=Aside0.mk hr1
 have HC1:=Aside0.mk hc1
 clear hr1 hc1;have HB:=Am (Below.refl w.heap.size w)
 have H : ((backfillref13_Sum.f k l0 l1 a3).bind fun t408 => ((backfillref13_used.f k t408 a2).bind fun t409 => (if 0 ≤ a3 then (if a3 < (l0.length : Int) then (if ((rd_T32 l0 a3).f1) < 0 then (some t409) else ((backfillref13_effective.f k l0 l1 a2 ((rd_T32 l0 a3).f1)).bind fun t411 => ((backfillref01_Mul.f (IntKind.u64.wrap (t411 - t409)) (IntKind.u64.wrap ((rd_T32 l0 a3).f2))).bind fun bt413 => ((backfillref13_Together.f k l0 ((rd_T32 l0 a3).f1)).bind fun t415 => ((backfillref01_Div.f k bt413.1 bt413.2 (IntKind.u64.wrap (t415))).bind fun bt416 => (some (IntKind.u64.wrap (t409 + bt416.2.1)))))))) else (none)) else (none)))) = some r:=h
 clear h;obtain ⟨t408,A5,H⟩:=bnd H;(try dsimp only at H);obtain ⟨t409,A6,H⟩:=bnd H;(try dsimp only at H)
 by_cases c7 : 0 ≤ a3
 ·rw [if_pos c7] at H
  have c7b0 : decide (0 ≤ a3) = true:=decide_eq_true c7
  clear c7
  by_cases c8 : a3 < (l0.length : Int)
  ·rw [if_pos c8] at H
   have c8b0 : decide (a3 < (l0.length : Int)) = true:=decide_eq_true c8
   clear c8
   by_cases c9 : ((rd_T32 l0 a3).f1) < 0
   ·rw [if_pos c9] at H
    have c9b0 : decide (((rd_T32 l0 a3).f1) < 0) = true:=decide_eq_true c9
    clear c9
    obtain rfl:=Option.some.inj H
    go_enter Tryz.func29,Tryz.ntmps29
    go_wp2_with (first | ((with_reducible refine gate_callee (f:=26) rfl ?_);refine goesL_ (some 18) rfl rfl Tryz.func26 (by kernel_rfl) rfl #[.slice A0 l0.length c0,.slice A1 l1.length c1,.int .i64 a3] rfl aA ?_;(with_reducible refine (backfillref13_Sum.calls k _ _ l0 _ _ l1 a3 t408 _ ?side1 ?side2 ?side3 ?side4 A5.out).mono ?_);(case side1 => repeat (first | exact HR0.out | (with_reducible refine Kd.C_alloc ?_ _) | (with_reducible refine Kd.C_drewN ?_ _) | (with_reducible refine Kd.C_drew ?_)));(case side2 => exact HC0.out);(case side3 => repeat (first | exact HR1.out | (with_reducible refine Kd.C_alloc ?_ _) | (with_reducible refine Kd.C_drewN ?_ _) | (with_reducible refine Kd.C_drew ?_)));(case side4 => exact HC1.out);rintro e w10 ⟨rfl,hb⟩;refine ⟨_,rfl,?_⟩;replace HB:=Am (below_step bA hb);(try clear hb)) | ((with_reducible refine gate_callee (f:=55) rfl ?_);refine goesL_ (some 20) rfl rfl Tryz.func55 (by kernel_rfl) rfl #[.int .u64 t408,.int .u64 a2] rfl aA ?_;(with_reducible refine (backfillref13_used.calls k t408 a2 t409 _ A6.out).mono ?_);rintro e w11 ⟨rfl,hb⟩;refine ⟨_,rfl,?_⟩;replace HB:=Am (below_step bA hb);(try clear hb);have p410 : 0 ≤ (a3 : Int):=of_decide_eq_true (by first | (with_reducible assumption) | assumption);have q410 : a3 < (l0.length : Int):=of_decide_eq_true (by first | (with_reducible assumption) | assumption);obtain ⟨ad410,e410,hx410_0,hx410_1,hx410_2,hx410_3,hx410_4⟩:=at_T32 HR0.out a3 p410 q410;cases e410;replace hx410_0:=(HB.out.cell (World.block_lt_of_cell? w _ hx410_0)).trans hx410_0;replace hx410_1:=(HB.out.cell (World.block_lt_of_cell? w _ hx410_1)).trans hx410_1;replace hx410_2:=(HB.out.cell (World.block_lt_of_cell? w _ hx410_2)).trans hx410_2;replace hx410_3:=(HB.out.cell (World.block_lt_of_cell? w _ hx410_3)).trans hx410_3;replace hx410_4:=(HB.out.cell (World.block_lt_of_cell? w _ hx410_4)).trans hx410_4;replace p410:=eq_true p410;replace q410:=eq_true q410))
    go_ret
    exact eA
   ·rw [if_neg c9] at H
    have c9b0 : decide (((rd_T32 l0 a3).f1) < 0) = false:=decide_eq_false c9
    clear c9;obtain ⟨t411,A12,H⟩:=bnd H;(try dsimp only at H);obtain ⟨⟨t413,t414⟩,A13,H⟩:=bnd H;(try dsimp only at H);obtain ⟨t415,A14,H⟩:=bnd H;(try dsimp only at H);obtain ⟨⟨t416,t417,t418,t419⟩,A15,H⟩:=bnd H;(try dsimp only at H)
    obtain rfl:=Option.some.inj H
    go_enter Tryz.func29,Tryz.ntmps29
    go_wp2_with (first | ((with_reducible refine gate_callee (f:=26) rfl ?_);refine goesL_ (some 18) rfl rfl Tryz.func26 (by kernel_rfl) rfl #[.slice A0 l0.length c0,.slice A1 l1.length c1,.int .i64 a3] rfl aA ?_;(with_reducible refine (backfillref13_Sum.calls k _ _ l0 _ _ l1 a3 t408 _ ?side1 ?side2 ?side3 ?side4 A5.out).mono ?_);(case side1 => repeat (first | exact HR0.out | (with_reducible refine Kd.C_alloc ?_ _) | (with_reducible refine Kd.C_drewN ?_ _) | (with_reducible refine Kd.C_drew ?_)));(case side2 => exact HC0.out);(case side3 => repeat (first | exact HR1.out | (with_reducible refine Kd.C_alloc ?_ _) | (with_reducible refine Kd.C_drewN ?_ _) | (with_reducible refine Kd.C_drew ?_)));(case side4 => exact HC1.out);rintro e w16 ⟨rfl,hb⟩;refine ⟨_,rfl,?_⟩;replace HB:=Am (below_step bA hb);(try clear hb)) | ((with_reducible refine gate_callee (f:=55) rfl ?_);refine goesL_ (some 20) rfl rfl Tryz.func55 (by kernel_rfl) rfl #[.int .u64 t408,.int .u64 a2] rfl aA ?_;(with_reducible refine (backfillref13_used.calls k t408 a2 t409 _ A6.out).mono ?_);rintro e w17 ⟨rfl,hb⟩;refine ⟨_,rfl,?_⟩;replace HB:=Am (below_step bA hb);(try clear hb);have p410 : 0 ≤ (a3 : Int):=of_decide_eq_true (by first | (with_reducible assumption) | assumption);have q410 : a3 < (l0.length : Int):=of_decide_eq_true (by first | (with_reducible assumption) | assumption);obtain ⟨ad410,e410,hx410_0,hx410_1,hx410_2,hx410_3,hx410_4⟩:=at_T32 HR0.out a3 p410 q410;cases e410;replace hx410_0:=(HB.out.cell (World.block_lt_of_cell? w _ hx410_0)).trans hx410_0;replace hx410_1:=(HB.out.cell (World.block_lt_of_cell? w _ hx410_1)).trans hx410_1;replace hx410_2:=(HB.out.cell (World.block_lt_of_cell? w _ hx410_2)).trans hx410_2;replace hx410_3:=(HB.out.cell (World.block_lt_of_cell? w _ hx410_3)).trans hx410_3;replace hx410_4:=(HB.out.cell (World.block_lt_of_cell? w _ hx410_4)).trans hx410_4;replace p410:=eq_true p410;replace q410:=eq_true q410) | ((with_reducible refine gate_callee (f:=29) rfl ?_);refine goesL_ (some 33) rfl rfl Tryz.func29 (by kernel_rfl) rfl #[.slice (some ad410) l0.length c0,.slice A1 l1.length c1,.int .u64 a2,.int .i64 ((rd_T32 l0 a3).f1)] rfl aA ?_;(with_reducible refine (ih k (by omega) _ _ l0 _ _ l1 a2 ((rd_T32 l0 a3).f1) t411 _ ?side1 ?side2 ?side3 ?side4 A12.out).mono ?_);(case side1 => repeat (first | exact (Kd.C_below HR0.out HB.out) | (with_reducible refine Kd.C_alloc ?_ _) | (with_reducible refine Kd.C_drewN ?_ _) | (with_reducible refine Kd.C_drew ?_)));(case side2 => exact HC0.out);(case side3 => repeat (first | exact (Kd.C_below HR1.out HB.out) | (with_reducible refine Kd.C_alloc ?_ _) | (with_reducible refine Kd.C_drewN ?_ _) | (with_reducible refine Kd.C_drew ?_)));(case side4 => exact HC1.out);rintro e w18 ⟨rfl,hb⟩;refine ⟨_,rfl,?_⟩;replace HB:=Am (below_step bA hb);(try clear hb);have p412 : 0 ≤ (a3 : Int):=of_decide_eq_true (by first | (with_reducible assumption) | assumption);have q412 : a3 < (l0.length : Int):=of_decide_eq_true (by first | (with_reducible assumption) | assumption);obtain ⟨ad412,e412,hx412_0,hx412_1,hx412_2,hx412_3,hx412_4⟩:=at_T32 HR0.out a3 p412 q412;obtain rfl : ad410 = ad412:=(by injection e412);replace hx412_0:=(HB.out.cell (World.block_lt_of_cell? w _ hx412_0)).trans hx412_0;replace hx412_1:=(HB.out.cell (World.block_lt_of_cell? w _ hx412_1)).trans hx412_1;replace hx412_2:=(HB.out.cell (World.block_lt_of_cell? w _ hx412_2)).trans hx412_2;replace hx412_3:=(HB.out.cell (World.block_lt_of_cell? w _ hx412_3)).trans hx412_3;replace hx412_4:=(HB.out.cell (World.block_lt_of_cell? w _ hx412_4)).trans hx412_4;replace p412:=eq_true p412;replace q412:=eq_true q412) | ((with_reducible refine gate_callee (f:=57) rfl ?_);refine goesL_ (some 44) rfl rfl Tryz.func57 (by kernel_rfl) rfl #[.int .u64 (IntKind.u64.wrap (t411 - t409)),.int .u64 (IntKind.u64.wrap ((rd_T32 l0 a3).f2))] rfl aA ?_;(with_reducible refine (backfillref01_Mul.calls (IntKind.u64.wrap (t411 - t409)) (IntKind.u64.wrap ((rd_T32 l0 a3).f2)) t413 t414 _ A13.out).mono ?_);rintro e w19 ⟨rfl,hb⟩;refine ⟨_,rfl,?_⟩;replace HB:=Am (below_step bA hb);(try clear hb)) | ((with_reducible refine gate_callee (f:=37) rfl ?_);refine goesL_ (some 47) rfl rfl Tryz.func37 (by kernel_rfl) rfl #[.slice (some ad410) l0.length c0,.int .i64 ((rd_T32 l0 a3).f1)] rfl aA ?_;(with_reducible refine (backfillref13_Together.calls k _ _ l0 ((rd_T32 l0 a3).f1) t415 _ ?side1 ?side2 A14.out).mono ?_);(case side1 => repeat (first | exact (Kd.C_below HR0.out HB.out) | (with_reducible refine Kd.C_alloc ?_ _) | (with_reducible refine Kd.C_drewN ?_ _) | (with_reducible refine Kd.C_drew ?_)));(case side2 => exact HC0.out);rintro e w' ⟨rfl,⟨nd,rfl⟩⟩;refine ⟨_,rfl,?_⟩;(try (rw [drewN_self w19];generalize hq_ : World.drewN w19 _ = w19;have n0_ : Aside0 (Below w.heap.size w w19):=⟨by rw [← hq_];exact bA⟩;clear HB hq_;have HB:=n0_;clear n0_))) | ((with_reducible refine gate_callee (f:=56) rfl ?_);refine goesL_ (some 49) rfl rfl Tryz.func56 (by kernel_rfl) rfl #[.agg #[.int .u64 t413,.int .u64 t414],.int .u64 (IntKind.u64.wrap (t415))] rfl aA ?_;(with_reducible refine (backfillref01_Div.calls k t413 t414 (IntKind.u64.wrap (t415)) t416 t417 t418 t419 _ A15.out).mono ?_);rintro e w20 ⟨rfl,hb⟩;refine ⟨_,rfl,?_⟩;replace HB:=Am (below_step bA hb);(try clear hb)) | ((with_reducible refine gate_dst (N:=12) rfl ?_);refine bxA 12 #[.int .u64 0,.int .u64 0] 82 ?_;intro gb420 hg w21 hbox hb;have BK420:=Am (hbox);have GW420:=Am (gwA hg bA);have GE420:=Am (gwA hg bA);replace HB:=Am (below_step bA hb);clear hb hbox hg;obtain ⟨hcz22_0,hcz22_1,hfz22_0,hfz22_1⟩:=k2 BK420.out))
    go_ret
    exact eA
  ·rw [if_neg c8] at H
   exact absurd H (by simp)
 ·rw [if_neg c7] at H
  exact absurd H (by simp)


def backfillref07_rungs.f  : Option (List Int):=some (([13043817825332782212,15511800964685064948,16915738899553466670,17664662643191237676,18051468387014017850,18248035989933441396,18347121020861646923,18396865112328554660,18421787711448657617,18434261669329232139,18440501815349552981,18443622680442407997,18445183311048607331,18445963675871538003,18446353870663572144,18446548971154807801,18446646522174239824,18446695297877410578,18446719685777359790,18446731879739425373,18446737976723480911,18446741025216264367,18446742549462845017,18446743311586182573,18446743692647863158,18446743883178706403,18446743978444128763,18446744026076840128,18446744049893195856,18446744061801373732,18446744067755462673,18446744070732507144] : List Int))
theorem backfillref07_rungs.calls  (r : List Int) (w : World) (h : backfillref07_rungs.f  = some r) :
  Calls Tryz.prog 62 #[] w fun e w' => ∃ v0_ : Value,e = .returned (v0_) ∧ Kd.R (Kd.int .u64) 30 w' w.heap.size (fun _ => True) v0_ r ∧ Below w.heap.size w w':=by
 have HB:=Am (Below.refl w.heap.size w)
 have H : (some (([13043817825332782212,15511800964685064948,16915738899553466670,17664662643191237676,18051468387014017850,18248035989933441396,18347121020861646923,18396865112328554660,18421787711448657617,18434261669329232139,18440501815349552981,18443622680442407997,18445183311048607331,18445963675871538003,18446353870663572144,18446548971154807801,18446646522174239824,18446695297877410578,18446719685777359790,18446731879739425373,18446737976723480911,18446741025216264367,18446742549462845017,18446743311586182573,18446743692647863158,18446743883178706403,18446743978444128763,18446744026076840128,18446744049893195856,18446744061801373732,18446744067755462673,18446744070732507144] : List Int))) = some r:=h
 clear h
 obtain ⟨y425,hy425⟩ : ∃ y_ : List Int,y_ = (([13043817825332782212,15511800964685064948,16915738899553466670,17664662643191237676,18051468387014017850,18248035989933441396,18347121020861646923,18396865112328554660,18421787711448657617,18434261669329232139,18440501815349552981,18443622680442407997,18445183311048607331,18445963675871538003,18446353870663572144,18446548971154807801,18446646522174239824,18446695297877410578,18446719685777359790,18446731879739425373,18446737976723480911,18446741025216264367,18446742549462845017,18446743311586182573,18446743692647863158,18446743883178706403,18446743978444128763,18446744026076840128,18446744049893195856,18446744061801373732,18446744067755462673,18446744070732507144] : List Int)):=⟨_,rfl⟩
 replace H : (some y425) = some r:=by first | (rw [hy425];with_reducible exact H) | (have H2_:=(Option.bind_some _ _).symm.trans H;rw [hy425];with_reducible exact H2_) | (have H2_:=(Option.bind_some _ _).symm.trans H;with_reducible exact H2_) | with_reducible exact H | (rw [hy425];exact H) | exact H
 have Ny425:=Aside0.mk hy425
 clear hy425
 obtain rfl:=Option.some.inj H
 go_enter Tryz.func62,Tryz.ntmps62
 go_wp2_with (first | ((with_reducible refine gate_dst (N:=1) rfl ?_);refine Kd.R_lit (Kd.int .u64) _ 30 ?hg (N:=1) ?hd (xs:=([13043817825332782212,15511800964685064948,16915738899553466670,17664662643191237676,18051468387014017850,18248035989933441396,18347121020861646923,18396865112328554660,18421787711448657617,18434261669329232139,18440501815349552981,18443622680442407997,18445183311048607331,18445963675871538003,18446353870663572144,18446548971154807801,18446646522174239824,18446695297877410578,18446719685777359790,18446731879739425373,18446737976723480911,18446741025216264367,18446742549462845017,18446743311586182573,18446743692647863158,18446743883178706403,18446743978444128763,18446744026076840128,18446744049893195856,18446744061801373732,18446744067755462673,18446744070732507144] : List Int)) (inner:=[.int .u64 13043817825332782212,.int .u64 15511800964685064948,.int .u64 16915738899553466670,.int .u64 17664662643191237676,.int .u64 18051468387014017850,.int .u64 18248035989933441396,.int .u64 18347121020861646923,.int .u64 18396865112328554660,.int .u64 18421787711448657617,.int .u64 18434261669329232139,.int .u64 18440501815349552981,.int .u64 18443622680442407997,.int .u64 18445183311048607331,.int .u64 18445963675871538003,.int .u64 18446353870663572144,.int .u64 18446548971154807801,.int .u64 18446646522174239824,.int .u64 18446695297877410578,.int .u64 18446719685777359790,.int .u64 18446731879739425373,.int .u64 18446737976723480911,.int .u64 18446741025216264367,.int .u64 18446742549462845017,.int .u64 18446743311586182573,.int .u64 18446743692647863158,.int .u64 18446743883178706403,.int .u64 18446743978444128763,.int .u64 18446744026076840128,.int .u64 18446744049893195856,.int .u64 18446744061801373732,.int .u64 18446744067755462673,.int .u64 18446744070732507144]) (ok:=fun _ => True) (okp:=fun _ => True) ?hr ?hp (fun _ hk => hk) trivial (Below.refl _ _) (Nat.le_refl _) (by simp) ?_;(case hd => rfl);(case hg => rfl);(case hr => first | (go_simp;done) | (go_simp;rfl));(case hp => exact (Reps.one (show Kd.M (Kd.int .u64) _ _ _ 13043817825332782212 [.int .u64 13043817825332782212] from rfl) (Reps.one (show Kd.M (Kd.int .u64) _ _ _ 15511800964685064948 [.int .u64 15511800964685064948] from rfl) (Reps.one (show Kd.M (Kd.int .u64) _ _ _ 16915738899553466670 [.int .u64 16915738899553466670] from rfl) (Reps.one (show Kd.M (Kd.int .u64) _ _ _ 17664662643191237676 [.int .u64 17664662643191237676] from rfl) (Reps.one (show Kd.M (Kd.int .u64) _ _ _ 18051468387014017850 [.int .u64 18051468387014017850] from rfl) (Reps.one (show Kd.M (Kd.int .u64) _ _ _ 18248035989933441396 [.int .u64 18248035989933441396] from rfl) (Reps.one (show Kd.M (Kd.int .u64) _ _ _ 18347121020861646923 [.int .u64 18347121020861646923] from rfl) (Reps.one (show Kd.M (Kd.int .u64) _ _ _ 18396865112328554660 [.int .u64 18396865112328554660] from rfl) (Reps.one (show Kd.M (Kd.int .u64) _ _ _ 18421787711448657617 [.int .u64 18421787711448657617] from rfl) (Reps.one (show Kd.M (Kd.int .u64) _ _ _ 18434261669329232139 [.int .u64 18434261669329232139] from rfl) (Reps.one (show Kd.M (Kd.int .u64) _ _ _ 18440501815349552981 [.int .u64 18440501815349552981] from rfl) (Reps.one (show Kd.M (Kd.int .u64) _ _ _ 18443622680442407997 [.int .u64 18443622680442407997] from rfl) (Reps.one (show Kd.M (Kd.int .u64) _ _ _ 18445183311048607331 [.int .u64 18445183311048607331] from rfl) (Reps.one (show Kd.M (Kd.int .u64) _ _ _ 18445963675871538003 [.int .u64 18445963675871538003] from rfl) (Reps.one (show Kd.M (Kd.int .u64) _ _ _ 18446353870663572144 [.int .u64 18446353870663572144] from rfl) (Reps.one (show Kd.M (Kd.int .u64) _ _ _ 18446548971154807801 [.int .u64 18446548971154807801] from rfl) (Reps.one (show Kd.M (Kd.int .u64) _ _ _ 18446646522174239824 [.int .u64 18446646522174239824] from rfl) (Reps.one (show Kd.M (Kd.int .u64) _ _ _ 18446695297877410578 [.int .u64 18446695297877410578] from rfl) (Reps.one (show Kd.M (Kd.int .u64) _ _ _ 18446719685777359790 [.int .u64 18446719685777359790] from rfl) (Reps.one (show Kd.M (Kd.int .u64) _ _ _ 18446731879739425373 [.int .u64 18446731879739425373] from rfl) (Reps.one (show Kd.M (Kd.int .u64) _ _ _ 18446737976723480911 [.int .u64 18446737976723480911] from rfl) (Reps.one (show Kd.M (Kd.int .u64) _ _ _ 18446741025216264367 [.int .u64 18446741025216264367] from rfl) (Reps.one (show Kd.M (Kd.int .u64) _ _ _ 18446742549462845017 [.int .u64 18446742549462845017] from rfl) (Reps.one (show Kd.M (Kd.int .u64) _ _ _ 18446743311586182573 [.int .u64 18446743311586182573] from rfl) (Reps.one (show Kd.M (Kd.int .u64) _ _ _ 18446743692647863158 [.int .u64 18446743692647863158] from rfl) (Reps.one (show Kd.M (Kd.int .u64) _ _ _ 18446743883178706403 [.int .u64 18446743883178706403] from rfl) (Reps.one (show Kd.M (Kd.int .u64) _ _ _ 18446743978444128763 [.int .u64 18446743978444128763] from rfl) (Reps.one (show Kd.M (Kd.int .u64) _ _ _ 18446744026076840128 [.int .u64 18446744026076840128] from rfl) (Reps.one (show Kd.M (Kd.int .u64) _ _ _ 18446744049893195856 [.int .u64 18446744049893195856] from rfl) (Reps.one (show Kd.M (Kd.int .u64) _ _ _ 18446744061801373732 [.int .u64 18446744061801373732] from rfl) (Reps.one (show Kd.M (Kd.int .u64) _ _ _ 18446744067755462673 [.int .u64 18446744067755462673] from rfl) (Reps.one (show Kd.M (Kd.int .u64) _ _ _ 18446744070732507144 [.int .u64 18446744070732507144] from rfl) (Reps.none _ _))))))))))))))))))))))))))))))))));intro v426 w1 ho2 hb hg_ hnew_;clear hg_ hnew_;(first | rw [← Ny425.out] at ho2 | (simp only [Int.reduceToNat] at ho2;rw [← Ny425.out] at ho2));have HO427:=Am (Kd.R_lower ho2 (below_size bA));replace HB:=Am (below_step bA hb);clear hb ho2))
 go_ret
 exact ⟨_,by first | rfl | (simp [errW_none,errW_some] <;> rfl) | (simp [*,errW_none,errW_some] <;> rfl),by (with_reducible repeat (first | apply Kd.R_alloc | apply Kd.R_drewN | apply Kd.R_drew));exact HO427.out,bA⟩

def backfillref07_Half.l0 : Nat → Int → Int → List Int → Int → Int → Option (Int)
 | 0,_,_,_,_,_ => none
 | k + 1,x0,x3,x4,x5,x6 => if x6 ≤ 32 then (if 0 ≤ (wrap64 (32 - x6)) then (if (Go.bits .and .u64 (shr .u64 x0 (wrap64 (32 - x6))) 1) = 1 then (if 0 ≤ (wrap64 (x6 - 1)) then (if (wrap64 (x6 - 1)) < (x4.length : Int) then ((backfillref01_Mul.f x5 (rd x4 (wrap64 (x6 - 1)))).bind fun bt432 => (backfillref07_Half.l0 k x0 x3 x4 bt432.1 (wrap64 (x6 + 1)))) else (none)) else (none)) else (backfillref07_Half.l0 k x0 x3 x4 x5 (wrap64 (x6 + 1)))) else (none)) else (if 0 ≤ x3 then (some (shr .u64 x5 x3)) else (none))
def backfillref07_Half.f (k : Nat) (a0 : Int) : Option (Int):=if (a0 / 4294967296) ≥ 63 then (some 0) else ((backfillref07_rungs.f).bind fun t428 => (backfillref07_Half.l0 k a0 (a0 / 4294967296) t428 9223372036854775808 1))
theorem backfillref07_Half.mono_l : ∀ k,(∀ y0 y1 y2 y3 y4,LeO (backfillref07_Half.l0 k y0 y1 y2 y3 y4) (backfillref07_Half.l0 (k + 1) y0 y1 y2 y3 y4))
 | 0 => fun _ _ _ _ _ r h => by simp [backfillref07_Half.l0] at h
 | k + 1 => by
  have ih0:=backfillref07_Half.mono_l k
  ·intro y0 y1 y2 y3 y4
   unfold backfillref07_Half.l0
   repeat' first
   | (with_reducible exact ih0 _ _ _ _ _)
   | (with_reducible exact LeO.refl _)
   | (with_reducible exact LeO.none _)
   | (with_reducible refine LeO.ite ?_ ?_)
   | (with_reducible refine LeO.bind ?_ (fun _ => ?_))
   | exact ih0 _ _ _ _ _
   | exact LeO.none _
   | refine LeO.ite ?_ ?_
   | refine LeO.bind ?_ (fun _ => ?_)
theorem backfillref07_Half.mono : ∀ a0 k,LeO (backfillref07_Half.f k a0) (backfillref07_Half.f (k + 1) a0):=by
 intro a0 k
 have ih0:=backfillref07_Half.mono_l k
 unfold backfillref07_Half.f
 repeat' first
   | (with_reducible exact ih0 _ _ _ _ _)
   | (with_reducible exact LeO.refl _)
   | (with_reducible exact LeO.none _)
   | (with_reducible refine LeO.ite ?_ ?_)
   | (with_reducible refine LeO.bind ?_ (fun _ => ?_))
   | exact ih0 _ _ _ _ _
   | exact LeO.none _
   | refine LeO.ite ?_ ?_
   | refine LeO.bind ?_ (fun _ => ?_)
theorem backfillref07_Half.calls (k : Nat) (a0 : Int) (r : Int) (w : World) (h : backfillref07_Half.f k a0 = some r) :
  Calls Tryz.prog 32 #[.int .u64 a0] w fun e w' => e = .returned (.int .u64 r) ∧ Below w.heap.size w w':=by
 have hfd82_0 : ∀ (x0 : Int) (x1 : Int) (W_ : World),(Instr.field 82 (.agg #[(.int .u64 x0),(.int .u64 x1)]) 0).run Tryz.prog W_ = .ok ((.int .u64 x0)) W_:=by intros;kernel_rfl
 have HB:=Am (Below.refl w.heap.size w)
 have H : (if (a0 / 4294967296) ≥ 63 then (some 0) else ((backfillref07_rungs.f).bind fun t428 => (backfillref07_Half.l0 k a0 (a0 / 4294967296) t428 9223372036854775808 1))) = some r:=h
 clear h
 by_cases c2 : (a0 / 4294967296) ≥ 63
 ·rw [if_pos c2] at H
  have c2b0 : decide (63 ≤ (a0 / 4294967296)) = true:=decide_eq_true c2
  clear c2
  obtain rfl:=Option.some.inj H
  go_enter Tryz.func32,Tryz.ntmps32
  go_wp2
  go_ret
  exact eA
 ·rw [if_neg c2] at H
  have c2b0 : decide (63 ≤ (a0 / 4294967296)) = false:=decide_eq_false c2
  clear c2;obtain ⟨t428,A3,H⟩:=bnd H;(try dsimp only at H)
  have H':=Aside0.mk H
  clear H
  go_enter Tryz.func32,Tryz.ntmps32
  go_wp2_with (first | ((with_reducible refine gate_callee (f:=62) rfl ?_);refine goesL_ (some 11) rfl rfl Tryz.func62 (by kernel_rfl) rfl #[] rfl aA ?_;(with_reducible refine (backfillref07_rungs.calls  t428 _ A3.out).mono ?_);rintro e w4 ⟨v429,rfl,ho0,hb⟩;refine ⟨_,rfl,?_⟩;have HO430:=Am (Kd.R_lower ho0 (below_size bA));replace HB:=Am (below_step bA hb);(try clear hb);(try clear ho0)))
  go_loopg [5,6] k (fun kq v5 v6 w' => ∃ (x5_1 : Int) (x6_1 : Int),v5 = .int .u64 x5_1 ∧ v6 = .int .i64 x6_1 ∧ Aside0 (backfillref07_Half.l0 kq a0 (a0 / 4294967296) t428 x5_1 x6_1 = some r) ∧ Aside0 (kq ≤ k) ∧ Aside0 (Kd.R (Kd.int .u64) 30 w' w.heap.size (fun _ => True) v429 t428) ∧ Aside0 (Below w.heap.size w w'))
  case atStart => exact ⟨(9223372036854775808),(1),(by first | rfl | (simp;done) | (simp [*];done)),(by first | rfl | (simp;done) | (simp [*];done)),H',⟨Nat.le_refl _⟩,⟨by (with_reducible repeat (first | apply Kd.R_alloc | apply Kd.R_drewN | apply Kd.R_drew));exact HO430.out⟩,⟨bA⟩⟩
  case round =>
   clear H'
   try clear c2
   try clear c2b0
   try clear p2
   try clear c3
   obtain ⟨x5_1,x6_1,rfl,rfl,HA,HK1,HO_4,HB⟩:=hrel
   cases gk with
   | zero => exact absurd HA.out (by simp [backfillref07_Half.l0])
   | succ k1 =>
    have H:=HA.out
    clear HA
    simp only [backfillref07_Half.l0] at H
    by_cases c5 : x6_1 ≤ 32
    ·rw [if_pos c5] at H
     have c5b0 : decide (x6_1 ≤ 32) = true:=decide_eq_true c5
     clear c5
     obtain ⟨ji6,hji6⟩ : ∃ j_ : Int,(wrap64 (32 - x6_1)) = j_:=⟨_,rfl⟩
     replace H : (if 0 ≤ (ji6) then (if (Go.bits .and .u64 (shr .u64 a0 (ji6)) 1) = 1 then (if 0 ≤ (wrap64 (x6_1 - 1)) then (if (wrap64 (x6_1 - 1)) < (t428.length : Int) then ((backfillref01_Mul.f x5_1 (rd t428 (wrap64 (x6_1 - 1)))).bind fun bt432 => (backfillref07_Half.l0 k1 a0 (a0 / 4294967296) t428 bt432.1 (wrap64 (x6_1 + 1)))) else (none)) else (none)) else (backfillref07_Half.l0 k1 a0 (a0 / 4294967296) t428 x5_1 (wrap64 (x6_1 + 1)))) else (none)) = some r:=by first | (rw [hji6] at H;exact H) | (simp only [hji6] at H ⊢;exact H)
     have hji6w : (IntKind.i64.wrap (32 - x6_1)) = ji6:=(i64_w _).trans hji6
     by_cases c7 : 0 ≤ (ji6)
     ·rw [if_pos c7] at H
      have c7b0:=eq_true c7
      have c7b1 : decide (0 ≤ (ji6)) = true:=decide_eq_true c7
      clear c7
      obtain ⟨ji8,hji8⟩ : ∃ j_ : Int,(shr .u64 a0 (ji6)) = j_:=⟨_,rfl⟩
      replace H : (if (Go.bits .and .u64 (ji8) 1) = 1 then (if 0 ≤ (wrap64 (x6_1 - 1)) then (if (wrap64 (x6_1 - 1)) < (t428.length : Int) then ((backfillref01_Mul.f x5_1 (rd t428 (wrap64 (x6_1 - 1)))).bind fun bt432 => (backfillref07_Half.l0 k1 a0 (a0 / 4294967296) t428 bt432.1 (wrap64 (x6_1 + 1)))) else (none)) else (none)) else (backfillref07_Half.l0 k1 a0 (a0 / 4294967296) t428 x5_1 (wrap64 (x6_1 + 1)))) = some r:=by first | (rw [hji8] at H;exact H) | (simp only [hji8] at H ⊢;exact H)
      have hji8_ : (a0 / 2 ^ min (ji6).toNat 64) = ji8:=hji8
      have hji8z : (ji6) ≤ 64 → (a0 / 2 ^ (ji6).toNat) = ji8:=shr_small hji8
      by_cases c9 : (Go.bits .and .u64 (ji8) 1) = 1
      ·rw [if_pos c9] at H
       have c9b0 : ((Go.bits .and .u64 (ji8) 1) == 1) = true:=beq_iff_eq.mpr c9
       have c9b1 : ((Go.bits .and .u64 (ji8) 1) != 1) = false:=bne_eq_false_iff_eq.mpr c9
       clear c9
       obtain ⟨ji10,hji10⟩ : ∃ j_ : Int,(wrap64 (x6_1 - 1)) = j_:=⟨_,rfl⟩
       replace H : (if 0 ≤ (ji10) then (if (ji10) < (t428.length : Int) then ((backfillref01_Mul.f x5_1 (rd t428 (ji10))).bind fun bt432 => (backfillref07_Half.l0 k1 a0 (a0 / 4294967296) t428 bt432.1 (wrap64 (x6_1 + 1)))) else (none)) else (none)) = some r:=by first | (rw [hji10] at H;exact H) | (simp only [hji10] at H ⊢;exact H)
       have hji10w : (IntKind.i64.wrap (x6_1 - 1)) = ji10:=(i64_w _).trans hji10
       by_cases c11 : 0 ≤ (ji10)
       ·rw [if_pos c11] at H
        have c11b0 : decide (0 ≤ (ji10)) = true:=decide_eq_true c11
        clear c11
        by_cases c12 : (ji10) < (t428.length : Int)
        ·rw [if_pos c12] at H
         have c12b0 : decide ((ji10) < (t428.length : Int)) = true:=decide_eq_true c12
         clear c12;obtain ⟨⟨t432,t433⟩,A13,H⟩:=bnd H;(try dsimp only at H)
         have H':=Aside0.mk H
         clear H
         obtain ⟨Ao14,co14,eo14⟩:=Kd.R_slice HO_4.out
         subst eo14
         have p431 : 0 ≤ ((ji10) : Int):=of_decide_eq_true (by first | (with_reducible assumption) | assumption)
         have q431 : (ji10) < (t428.length : Int):=of_decide_eq_true (by first | (with_reducible assumption) | assumption)
         obtain ⟨ad431,e431,hx431_0⟩:=Kd.at_int (Kd.R_reads' HO_4.out).2.2 (ji10) p431 q431
         cases e431
         replace p431:=eq_true p431
         replace q431:=eq_true q431
         go_wp2_with (first | ((with_reducible refine gate_callee (f:=57) rfl ?_);refine goesL_ (some 28) rfl rfl Tryz.func57 (by kernel_rfl) rfl #[.int .u64 x5_1,.int .u64 (rd t428 (ji10))] rfl (by (try simp only [List.map_toArray,List.map_cons,List.map_nil]);first | done | (simp only [hji10];rfl) | rfl | (simp only [List.length_drop,List.length_take];rfl)) ?_;(with_reducible refine (backfillref01_Mul.calls x5_1 (rd t428 (ji10)) t432 t433 _ A13.out).mono ?_);rintro e w15 ⟨rfl,hb⟩;refine ⟨_,rfl,?_⟩;replace HO_4:=Am (Kd.R_below (by (with_reducible repeat (first | apply Kd.R_alloc | apply Kd.R_drewN | apply Kd.R_drew));exact HO_4.out) hb);replace HB:=Am (below_step bA hb);(try clear hb)))
         go_roundg k1
         case measure => have:=HK1.out;omega
         case rel => exact ⟨(t432),(wrap64 (x6_1 + 1)),(by first | rfl | (simp;done) | (simp [*];done)),(by first | rfl | (simp;done) | (simp [*];done)),H',⟨by have:=HK1.out;omega⟩,⟨by (with_reducible repeat (first | apply Kd.R_alloc | apply Kd.R_drewN | apply Kd.R_drew));exact HO_4.out⟩,⟨bA⟩⟩
        ·rw [if_neg c12] at H
         exact absurd H (by simp)
       ·rw [if_neg c11] at H
        exact absurd H (by simp)
      ·rw [if_neg c9] at H
       have c9b0 : ((Go.bits .and .u64 (ji8) 1) == 1) = false:=beq_eq_false_iff_ne.mpr c9
       have c9b1 : ((Go.bits .and .u64 (ji8) 1) != 1) = true:=bne_iff_ne.mpr c9
       have H':=Aside0.mk H
       clear H
       go_wp2
       go_roundg k1
       case measure => have:=HK1.out;omega
       case rel => exact ⟨(x5_1),(wrap64 (x6_1 + 1)),(by first | rfl | (simp;done) | (simp [*];done)),(by first | rfl | (simp;done) | (simp [*];done)),H',⟨by have:=HK1.out;omega⟩,⟨by (with_reducible repeat (first | apply Kd.R_alloc | apply Kd.R_drewN | apply Kd.R_drew));exact HO_4.out⟩,⟨bA⟩⟩
     ·rw [if_neg c7] at H
      exact absurd H (by simp)
    ·rw [if_neg c5] at H
     have c5b0 : decide (x6_1 ≤ 32) = false:=decide_eq_false c5
     clear c5
     obtain ⟨ji16,hji16⟩ : ∃ j_ : Int,(a0 / 4294967296) = j_:=⟨_,rfl⟩
     replace H : (if 0 ≤ (ji16) then (some (shr .u64 x5_1 (ji16))) else (none)) = some r:=by first | (rw [hji16] at H;exact H) | (simp only [hji16] at H ⊢;exact H)
     (try rw [hji16] at c2b0)
     by_cases c17 : 0 ≤ (ji16)
     ·rw [if_pos c17] at H
      have c17b0:=eq_true c17
      have c17b1 : decide (0 ≤ (ji16)) = true:=decide_eq_true c17
      clear c17
      obtain ⟨ji18,hji18⟩ : ∃ j_ : Int,(shr .u64 x5_1 (ji16)) = j_:=⟨_,rfl⟩
      replace H : (some ji18) = some r:=by first | (rw [hji18] at H;exact H) | (simp only [hji18] at H ⊢;exact H)
      have hji18_ : (x5_1 / 2 ^ min (ji16).toNat 64) = ji18:=hji18
      have hji18z : (ji16) ≤ 64 → (x5_1 / 2 ^ (ji16).toNat) = ji18:=shr_small hji18
      obtain rfl:=Option.some.inj H
      go_wp2
      go_ret
      exact ⟨by first | rfl | (simp [errW_none,errW_some] <;> rfl) | (simp only [← hji16,← hji18];first | rfl | (simp [errW_none,errW_some] <;> rfl)) | (simp [*,errW_none,errW_some] <;> rfl),bA⟩
     ·rw [if_neg c17] at H
      exact absurd H (by simp)

end Go.Proofs.YtbhijfbjdbjpbaaGreatDoor.GSH
