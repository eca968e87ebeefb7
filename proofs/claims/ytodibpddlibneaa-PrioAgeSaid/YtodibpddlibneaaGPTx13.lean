-- Laid by a program of this session (wip/tools/pr.py): contracts and pure functions; Lean checks it.
import Derived.Test.YtodibpddlibneaaGPTx0
import Derived.Test.YtodibpddlibneaaGPTx10
import Derived.Test.YtodibpddlibneaaGPTx11
import Derived.Test.YtodibpddlibneaaGPTx12
namespace Go.Proofs.Ytodibpddlibneaa.GPT
open Go.RowKit Go.Proofs.YtodibpddlibneaaW.PrintWords Go.Proofs.YtodibpddlibneaaW.PrintLast Go.Proofs.YtodibpddlibneaaW.PrintMore
attribute [local go_sem] max2_int min2_int max_two min_two max_three min_three max_four min_four   -- for this text's walks alone
set_option linter.unusedVariables false
set_option linter.unusedSimpArgs false

/-! ### backfillref11_Check: function 14 -/
def backfillref11_Check.f (k : Nat) (a0_0 : Int) (a0_1 : Int) (a0_2 : Int) (a0_3 : Int) (a0_4 : Int) (a0_5 : Int) (a0_6 : Int) (a0_7 : Int) : Option (Int) := (backfillref11_ranges.f k a0_0 a0_1 a0_2 a0_3 a0_4 a0_5 a0_6 a0_7).bind fun t292 => (if t292 = true then ((backfillref11_M.f a0_0 a0_1 a0_2 a0_3 a0_4 a0_5 a0_6 a0_7).bind fun t293 => (if t293 > 2147483648 then (some 111) else (if (wrap64 ((wrap64 ((wrap64 (a0_3 * 1099511627776)) + a0_4)) + (wrap64 (a0_5 * a0_0)))) ≥ 4611686018427387904 then (some 112) else ((backfillref11_off.f a0_0 a0_1 a0_2 a0_3 a0_4 a0_5 a0_6 a0_7).bind fun bt294 => ((backfillref01_Times.f bt294.1 bt294.2.1 1000).bind fun bt300 => ((backfillref11_bound.f a0_0 a0_1 a0_2 a0_3 a0_4 a0_5 a0_6 a0_7).bind fun t304 => ((backfillref01_Times.f bt294.2.2.1 bt294.2.2.2 (IntKind.u64.wrap (wrap64 ((wrap64 ((wrap64 (a0_3 * t304)) + a0_4)) + (wrap64 (a0_5 * a0_0)))))).bind fun bt305 => ((backfillref01_Cmp.f k bt300.1 bt300.2.1 bt305.1 bt305.2.1).bind fun t309 => (if t309 > 0 then (some 113) else (some 0)))))))))) else (some 110))
theorem backfillref11_Check.mono : ∀ a0 a1 a2 a3 a4 a5 a6 a7 k, LeO (backfillref11_Check.f k a0 a1 a2 a3 a4 a5 a6 a7) (backfillref11_Check.f (k + 1) a0 a1 a2 a3 a4 a5 a6 a7) := by
 intro a0 a1 a2 a3 a4 a5 a6 a7 k
 unfold backfillref11_Check.f
 repeat' first
   | (with_reducible exact backfillref01_Cmp.mono _ _ _ _ _)
   | (with_reducible exact backfillref11_ranges.mono _ _ _ _ _ _ _ _ _)
   | (with_reducible exact LeO.refl _)
   | (with_reducible exact LeO.none _)
   | (with_reducible refine LeO.ite ?_ ?_)
   | (with_reducible refine LeO.bind ?_ (fun _ => ?_))
   | exact backfillref01_Cmp.mono _ _ _ _ _
   | exact backfillref11_ranges.mono _ _ _ _ _ _ _ _ _
   | exact LeO.none _
   | refine LeO.ite ?_ ?_
   | refine LeO.bind ?_ (fun _ => ?_)
def backfillref11_Check.T9 : Bool × List (List Nat × List Nat) := (true, [([], []), ([], []), ([1], [1]), ([], []), ([3], [3]), ([2, 4], [2, 4]), ([], []), ([6], [6]), ([5, 7], [5, 7]), ([], []), ([9], [9]), ([], []), ([11], [11]), ([10, 12], [10, 12]), ([8, 13], [8, 13]), ([14], [14]), ([0, 15, 4], [0, 15]), ([16], [16]), ([17], [17]), ([17], [17]), ([], []), ([20, 18, 16, 0, 1, 2, 3, 4, 5, 6, 7, 8, 9, 10, 11, 12, 13, 14, 15, 16, 17, 18, 20], [18, 20]), ([19, 21, 0, 1, 2, 3, 4, 5, 6, 7, 8, 9, 10, 11, 12, 13, 14, 15, 16, 17, 18, 19, 20, 21], [19])])
def backfillref11_Check.B9 : List Nat := [0, 0, 2, 0, 8, 30, 0, 64, 254, 0, 512, 0, 2048, 7680, 16382, 32766, 65535, 131071, 262143, 262143, 0, 1572863, 4194303]
theorem backfillref11_Check.tab9 : rtab .any (opsOf Try.f14 9) = backfillref11_Check.T9 := by kernel_rfl
theorem backfillref11_Check.bits9 : waitsOk backfillref11_Check.T9.2 backfillref11_Check.B9 = true := by kernel_rfl
set_option maxHeartbeats 8000000 in
set_option maxRecDepth 100000 in
theorem backfillref11_Check.calls (k : Nat) (a0_0 : Int) (a0_1 : Int) (a0_2 : Int) (a0_3 : Int) (a0_4 : Int) (a0_5 : Int) (a0_6 : Int) (a0_7 : Int) (r : Int) (w : World) (h : backfillref11_Check.f k a0_0 a0_1 a0_2 a0_3 a0_4 a0_5 a0_6 a0_7 = some r) :
  Calls Try.prog 14 #[.agg #[.int .i64 a0_0, .int .i64 a0_1, .int .i64 a0_2, .int .i64 a0_3, .int .i64 a0_4, .int .i64 a0_5, .int .i64 a0_6, .int .i64 a0_7]] w fun e w' => e = .returned (.int .i64 r) ∧ Below w.heap.size w w' := by
 have hu31 := Try.underlying31
 have hu56 := Try.underlying56
 have HB := Aside0.mk (Below.refl w.heap.size w)
 have H : ((backfillref11_ranges.f k a0_0 a0_1 a0_2 a0_3 a0_4 a0_5 a0_6 a0_7).bind fun t292 => (if t292 = true then ((backfillref11_M.f a0_0 a0_1 a0_2 a0_3 a0_4 a0_5 a0_6 a0_7).bind fun t293 => (if t293 > 2147483648 then (some 111) else (if (wrap64 ((wrap64 ((wrap64 (a0_3 * 1099511627776)) + a0_4)) + (wrap64 (a0_5 * a0_0)))) ≥ 4611686018427387904 then (some 112) else ((backfillref11_off.f a0_0 a0_1 a0_2 a0_3 a0_4 a0_5 a0_6 a0_7).bind fun bt294 => ((backfillref01_Times.f bt294.1 bt294.2.1 1000).bind fun bt300 => ((backfillref11_bound.f a0_0 a0_1 a0_2 a0_3 a0_4 a0_5 a0_6 a0_7).bind fun t304 => ((backfillref01_Times.f bt294.2.2.1 bt294.2.2.2 (IntKind.u64.wrap (wrap64 ((wrap64 ((wrap64 (a0_3 * t304)) + a0_4)) + (wrap64 (a0_5 * a0_0)))))).bind fun bt305 => ((backfillref01_Cmp.f k bt300.1 bt300.2.1 bt305.1 bt305.2.1).bind fun t309 => (if t309 > 0 then (some 113) else (some 0)))))))))) else (some 110))) = some r := h
 clear h; replace H := Option.bind_eq_some_iff.mp H; obtain ⟨t292, A20, H⟩ := H; replace H : (if t292 = true then ((backfillref11_M.f a0_0 a0_1 a0_2 a0_3 a0_4 a0_5 a0_6 a0_7).bind fun t293 => (if t293 > 2147483648 then (some 111) else (if (wrap64 ((wrap64 ((wrap64 (a0_3 * 1099511627776)) + a0_4)) + (wrap64 (a0_5 * a0_0)))) ≥ 4611686018427387904 then (some 112) else ((backfillref11_off.f a0_0 a0_1 a0_2 a0_3 a0_4 a0_5 a0_6 a0_7).bind fun bt294 => ((backfillref01_Times.f bt294.1 bt294.2.1 1000).bind fun bt300 => ((backfillref11_bound.f a0_0 a0_1 a0_2 a0_3 a0_4 a0_5 a0_6 a0_7).bind fun t304 => ((backfillref01_Times.f bt294.2.2.1 bt294.2.2.2 (IntKind.u64.wrap (wrap64 ((wrap64 ((wrap64 (a0_3 * t304)) + a0_4)) + (wrap64 (a0_5 * a0_0)))))).bind fun bt305 => ((backfillref01_Cmp.f k bt300.1 bt300.2.1 bt305.1 bt305.2.1).bind fun t309 => (if t309 > 0 then (some 113) else (some 0)))))))))) else (some 110)) = some r := H; have A2 := Aside0.mk A20; clear A20
 by_cases c3 : t292 = true
 ·subst c3
  have H1 : ((backfillref11_M.f a0_0 a0_1 a0_2 a0_3 a0_4 a0_5 a0_6 a0_7).bind fun t293 => (if t293 > 2147483648 then (some 111) else (if (wrap64 ((wrap64 ((wrap64 (a0_3 * 1099511627776)) + a0_4)) + (wrap64 (a0_5 * a0_0)))) ≥ 4611686018427387904 then (some 112) else ((backfillref11_off.f a0_0 a0_1 a0_2 a0_3 a0_4 a0_5 a0_6 a0_7).bind fun bt294 => ((backfillref01_Times.f bt294.1 bt294.2.1 1000).bind fun bt300 => ((backfillref11_bound.f a0_0 a0_1 a0_2 a0_3 a0_4 a0_5 a0_6 a0_7).bind fun t304 => ((backfillref01_Times.f bt294.2.2.1 bt294.2.2.2 (IntKind.u64.wrap (wrap64 ((wrap64 ((wrap64 (a0_3 * t304)) + a0_4)) + (wrap64 (a0_5 * a0_0)))))).bind fun bt305 => ((backfillref01_Cmp.f k bt300.1 bt300.2.1 bt305.1 bt305.2.1).bind fun t309 => (if t309 > 0 then (some 113) else (some 0)))))))))) = some r := by rw [if_pos rfl] at H; exact H
  clear H
  have H := H1
  clear H1; replace H := Option.bind_eq_some_iff.mp H; obtain ⟨t293, A40, H⟩ := H; replace H : (if t293 > 2147483648 then (some 111) else (if (wrap64 ((wrap64 ((wrap64 (a0_3 * 1099511627776)) + a0_4)) + (wrap64 (a0_5 * a0_0)))) ≥ 4611686018427387904 then (some 112) else ((backfillref11_off.f a0_0 a0_1 a0_2 a0_3 a0_4 a0_5 a0_6 a0_7).bind fun bt294 => ((backfillref01_Times.f bt294.1 bt294.2.1 1000).bind fun bt300 => ((backfillref11_bound.f a0_0 a0_1 a0_2 a0_3 a0_4 a0_5 a0_6 a0_7).bind fun t304 => ((backfillref01_Times.f bt294.2.2.1 bt294.2.2.2 (IntKind.u64.wrap (wrap64 ((wrap64 ((wrap64 (a0_3 * t304)) + a0_4)) + (wrap64 (a0_5 * a0_0)))))).bind fun bt305 => ((backfillref01_Cmp.f k bt300.1 bt300.2.1 bt305.1 bt305.2.1).bind fun t309 => (if t309 > 0 then (some 113) else (some 0))))))))) = some r := H; have A4 := Aside0.mk A40; clear A40
  by_cases c5 : t293 > 2147483648
  ·rw [if_pos c5] at H
   have c5b0 : decide (2147483648 < t293) = true := decide_eq_true c5
   clear c5
   obtain rfl := Option.some.inj H
   go_enter Try.func14, Try.ntmps14
   go_wp2_with (first | ((with_reducible refine gate_dst (N := 1) rfl ?_); refine bxA 1 #[.int .i64 a0_0, .int .i64 a0_1, .int .i64 a0_2, .int .i64 a0_3, .int .i64 a0_4, .int .i64 a0_5, .int .i64 a0_6, .int .i64 a0_7] 31 ?_; intro gb291 hg w6 hbox hb; have n0_ := Aside0.mk (below_step bA hb); have n1_ := Aside0.mk (hbox); have n2_ := Aside0.mk (gwA hg bA); have n3_ := Aside0.mk (gwA hg bA); clear HB; have HB := n0_; have BK291 := n1_; have GW291 := n2_; have GE291 := n3_; clear n0_ n1_ n2_ n3_ hb hbox hg; have hcz7_0 : w6.cell? ⟨gb291, 0, none⟩ = some (.int .i64 a0_0) := (blk_cell BK291.out 0).trans rfl; have hcz7_1 : w6.cell? ⟨gb291, 1, none⟩ = some (.int .i64 a0_1) := (blk_cell BK291.out 1).trans rfl; have hcz7_2 : w6.cell? ⟨gb291, 2, none⟩ = some (.int .i64 a0_2) := (blk_cell BK291.out 2).trans rfl; have hcz7_3 : w6.cell? ⟨gb291, 3, none⟩ = some (.int .i64 a0_3) := (blk_cell BK291.out 3).trans rfl; have hcz7_4 : w6.cell? ⟨gb291, 4, none⟩ = some (.int .i64 a0_4) := (blk_cell BK291.out 4).trans rfl; have hcz7_5 : w6.cell? ⟨gb291, 5, none⟩ = some (.int .i64 a0_5) := (blk_cell BK291.out 5).trans rfl; have hcz7_6 : w6.cell? ⟨gb291, 6, none⟩ = some (.int .i64 a0_6) := (blk_cell BK291.out 6).trans rfl; have hcz7_7 : w6.cell? ⟨gb291, 7, none⟩ = some (.int .i64 a0_7) := (blk_cell BK291.out 7).trans rfl; have hfz7_0 := blk_frozen BK291.out 0; have hfz7_1 := blk_frozen BK291.out 1; have hfz7_2 := blk_frozen BK291.out 2; have hfz7_3 := blk_frozen BK291.out 3; have hfz7_4 := blk_frozen BK291.out 4; have hfz7_5 := blk_frozen BK291.out 5; have hfz7_6 := blk_frozen BK291.out 6; have hfz7_7 := blk_frozen BK291.out 7) | ((with_reducible refine gate_callee (f := 25) rfl ?_); refine goesL_ (some 10) rfl rfl Try.func25 (by kernel_rfl) rfl #[.agg #[.int .i64 a0_0, .int .i64 a0_1, .int .i64 a0_2, .int .i64 a0_3, .int .i64 a0_4, .int .i64 a0_5, .int .i64 a0_6, .int .i64 a0_7]] rfl aA ?_; (with_reducible refine (backfillref11_ranges.calls k a0_0 a0_1 a0_2 a0_3 a0_4 a0_5 a0_6 a0_7 true _ A2.out).mono ?_); rintro e w8 ⟨rfl, hb⟩; refine ⟨_, rfl, ?_⟩; have n0_ := Aside0.mk (blk_below (g := gb291) kA hb); have n1_ := Aside0.mk (below_step bA hb); clear BK291 HB; have BK291 := n0_; have HB := n1_; clear n0_ n1_; (try clear hb); have hcz9_0 : w8.cell? ⟨gb291, 0, none⟩ = some (.int .i64 a0_0) := (blk_cell BK291.out 0).trans rfl; have hcz9_1 : w8.cell? ⟨gb291, 1, none⟩ = some (.int .i64 a0_1) := (blk_cell BK291.out 1).trans rfl; have hcz9_2 : w8.cell? ⟨gb291, 2, none⟩ = some (.int .i64 a0_2) := (blk_cell BK291.out 2).trans rfl; have hcz9_3 : w8.cell? ⟨gb291, 3, none⟩ = some (.int .i64 a0_3) := (blk_cell BK291.out 3).trans rfl; have hcz9_4 : w8.cell? ⟨gb291, 4, none⟩ = some (.int .i64 a0_4) := (blk_cell BK291.out 4).trans rfl; have hcz9_5 : w8.cell? ⟨gb291, 5, none⟩ = some (.int .i64 a0_5) := (blk_cell BK291.out 5).trans rfl; have hcz9_6 : w8.cell? ⟨gb291, 6, none⟩ = some (.int .i64 a0_6) := (blk_cell BK291.out 6).trans rfl; have hcz9_7 : w8.cell? ⟨gb291, 7, none⟩ = some (.int .i64 a0_7) := (blk_cell BK291.out 7).trans rfl; have hfz9_0 := blk_frozen BK291.out 0; have hfz9_1 := blk_frozen BK291.out 1; have hfz9_2 := blk_frozen BK291.out 2; have hfz9_3 := blk_frozen BK291.out 3; have hfz9_4 := blk_frozen BK291.out 4; have hfz9_5 := blk_frozen BK291.out 5; have hfz9_6 := blk_frozen BK291.out 6; have hfz9_7 := blk_frozen BK291.out 7) | ((with_reducible refine gate_callee (f := 26) rfl ?_); refine goesL_ (some 13) rfl rfl Try.func26 (by kernel_rfl) rfl #[.agg #[.int .i64 a0_0, .int .i64 a0_1, .int .i64 a0_2, .int .i64 a0_3, .int .i64 a0_4, .int .i64 a0_5, .int .i64 a0_6, .int .i64 a0_7]] rfl aA ?_; (with_reducible refine (backfillref11_M.calls a0_0 a0_1 a0_2 a0_3 a0_4 a0_5 a0_6 a0_7 t293 _ A4.out).mono ?_); rintro e w10 ⟨rfl, hb⟩; refine ⟨_, rfl, ?_⟩; have n0_ := Aside0.mk (blk_below (g := gb291) kA hb); have n1_ := Aside0.mk (below_step bA hb); clear BK291 HB; have BK291 := n0_; have HB := n1_; clear n0_ n1_; (try clear hb)))
   go_ret
   exact ⟨by first | rfl | (simp [errW_none, errW_some] <;> rfl) | (simp [*, errW_none, errW_some] <;> rfl), bA⟩
  ·rw [if_neg c5] at H
   have c5b0 : decide (2147483648 < t293) = false := decide_eq_false c5
   clear c5
   by_cases c11 : (wrap64 ((wrap64 ((wrap64 (a0_3 * 1099511627776)) + a0_4)) + (wrap64 (a0_5 * a0_0)))) ≥ 4611686018427387904
   ·rw [if_pos c11] at H
    have c11b0 : decide (4611686018427387904 ≤ (wrap64 ((wrap64 ((wrap64 (a0_3 * 1099511627776)) + a0_4)) + (wrap64 (a0_5 * a0_0))))) = true := decide_eq_true c11
    clear c11
    obtain rfl := Option.some.inj H
    go_enter Try.func14, Try.ntmps14
    go_wp2_with (first | ((with_reducible refine gate_dst (N := 1) rfl ?_); refine bxA 1 #[.int .i64 a0_0, .int .i64 a0_1, .int .i64 a0_2, .int .i64 a0_3, .int .i64 a0_4, .int .i64 a0_5, .int .i64 a0_6, .int .i64 a0_7] 31 ?_; intro gb291 hg w12 hbox hb; have n0_ := Aside0.mk (below_step bA hb); have n1_ := Aside0.mk (hbox); have n2_ := Aside0.mk (gwA hg bA); have n3_ := Aside0.mk (gwA hg bA); clear HB; have HB := n0_; have BK291 := n1_; have GW291 := n2_; have GE291 := n3_; clear n0_ n1_ n2_ n3_ hb hbox hg; have hcz13_0 : w12.cell? ⟨gb291, 0, none⟩ = some (.int .i64 a0_0) := (blk_cell BK291.out 0).trans rfl; have hcz13_1 : w12.cell? ⟨gb291, 1, none⟩ = some (.int .i64 a0_1) := (blk_cell BK291.out 1).trans rfl; have hcz13_2 : w12.cell? ⟨gb291, 2, none⟩ = some (.int .i64 a0_2) := (blk_cell BK291.out 2).trans rfl; have hcz13_3 : w12.cell? ⟨gb291, 3, none⟩ = some (.int .i64 a0_3) := (blk_cell BK291.out 3).trans rfl; have hcz13_4 : w12.cell? ⟨gb291, 4, none⟩ = some (.int .i64 a0_4) := (blk_cell BK291.out 4).trans rfl; have hcz13_5 : w12.cell? ⟨gb291, 5, none⟩ = some (.int .i64 a0_5) := (blk_cell BK291.out 5).trans rfl; have hcz13_6 : w12.cell? ⟨gb291, 6, none⟩ = some (.int .i64 a0_6) := (blk_cell BK291.out 6).trans rfl; have hcz13_7 : w12.cell? ⟨gb291, 7, none⟩ = some (.int .i64 a0_7) := (blk_cell BK291.out 7).trans rfl; have hfz13_0 := blk_frozen BK291.out 0; have hfz13_1 := blk_frozen BK291.out 1; have hfz13_2 := blk_frozen BK291.out 2; have hfz13_3 := blk_frozen BK291.out 3; have hfz13_4 := blk_frozen BK291.out 4; have hfz13_5 := blk_frozen BK291.out 5; have hfz13_6 := blk_frozen BK291.out 6; have hfz13_7 := blk_frozen BK291.out 7) | ((with_reducible refine gate_callee (f := 25) rfl ?_); refine goesL_ (some 10) rfl rfl Try.func25 (by kernel_rfl) rfl #[.agg #[.int .i64 a0_0, .int .i64 a0_1, .int .i64 a0_2, .int .i64 a0_3, .int .i64 a0_4, .int .i64 a0_5, .int .i64 a0_6, .int .i64 a0_7]] rfl aA ?_; (with_reducible refine (backfillref11_ranges.calls k a0_0 a0_1 a0_2 a0_3 a0_4 a0_5 a0_6 a0_7 true _ A2.out).mono ?_); rintro e w14 ⟨rfl, hb⟩; refine ⟨_, rfl, ?_⟩; have n0_ := Aside0.mk (blk_below (g := gb291) kA hb); have n1_ := Aside0.mk (below_step bA hb); clear BK291 HB; have BK291 := n0_; have HB := n1_; clear n0_ n1_; (try clear hb); have hcz15_0 : w14.cell? ⟨gb291, 0, none⟩ = some (.int .i64 a0_0) := (blk_cell BK291.out 0).trans rfl; have hcz15_1 : w14.cell? ⟨gb291, 1, none⟩ = some (.int .i64 a0_1) := (blk_cell BK291.out 1).trans rfl; have hcz15_2 : w14.cell? ⟨gb291, 2, none⟩ = some (.int .i64 a0_2) := (blk_cell BK291.out 2).trans rfl; have hcz15_3 : w14.cell? ⟨gb291, 3, none⟩ = some (.int .i64 a0_3) := (blk_cell BK291.out 3).trans rfl; have hcz15_4 : w14.cell? ⟨gb291, 4, none⟩ = some (.int .i64 a0_4) := (blk_cell BK291.out 4).trans rfl; have hcz15_5 : w14.cell? ⟨gb291, 5, none⟩ = some (.int .i64 a0_5) := (blk_cell BK291.out 5).trans rfl; have hcz15_6 : w14.cell? ⟨gb291, 6, none⟩ = some (.int .i64 a0_6) := (blk_cell BK291.out 6).trans rfl; have hcz15_7 : w14.cell? ⟨gb291, 7, none⟩ = some (.int .i64 a0_7) := (blk_cell BK291.out 7).trans rfl; have hfz15_0 := blk_frozen BK291.out 0; have hfz15_1 := blk_frozen BK291.out 1; have hfz15_2 := blk_frozen BK291.out 2; have hfz15_3 := blk_frozen BK291.out 3; have hfz15_4 := blk_frozen BK291.out 4; have hfz15_5 := blk_frozen BK291.out 5; have hfz15_6 := blk_frozen BK291.out 6; have hfz15_7 := blk_frozen BK291.out 7) | ((with_reducible refine gate_callee (f := 26) rfl ?_); refine goesL_ (some 13) rfl rfl Try.func26 (by kernel_rfl) rfl #[.agg #[.int .i64 a0_0, .int .i64 a0_1, .int .i64 a0_2, .int .i64 a0_3, .int .i64 a0_4, .int .i64 a0_5, .int .i64 a0_6, .int .i64 a0_7]] rfl aA ?_; (with_reducible refine (backfillref11_M.calls a0_0 a0_1 a0_2 a0_3 a0_4 a0_5 a0_6 a0_7 t293 _ A4.out).mono ?_); rintro e w16 ⟨rfl, hb⟩; refine ⟨_, rfl, ?_⟩; have n0_ := Aside0.mk (blk_below (g := gb291) kA hb); have n1_ := Aside0.mk (below_step bA hb); clear BK291 HB; have BK291 := n0_; have HB := n1_; clear n0_ n1_; (try clear hb); have hcz17_0 : w16.cell? ⟨gb291, 0, none⟩ = some (.int .i64 a0_0) := (blk_cell BK291.out 0).trans rfl; have hcz17_1 : w16.cell? ⟨gb291, 1, none⟩ = some (.int .i64 a0_1) := (blk_cell BK291.out 1).trans rfl; have hcz17_2 : w16.cell? ⟨gb291, 2, none⟩ = some (.int .i64 a0_2) := (blk_cell BK291.out 2).trans rfl; have hcz17_3 : w16.cell? ⟨gb291, 3, none⟩ = some (.int .i64 a0_3) := (blk_cell BK291.out 3).trans rfl; have hcz17_4 : w16.cell? ⟨gb291, 4, none⟩ = some (.int .i64 a0_4) := (blk_cell BK291.out 4).trans rfl; have hcz17_5 : w16.cell? ⟨gb291, 5, none⟩ = some (.int .i64 a0_5) := (blk_cell BK291.out 5).trans rfl; have hcz17_6 : w16.cell? ⟨gb291, 6, none⟩ = some (.int .i64 a0_6) := (blk_cell BK291.out 6).trans rfl; have hcz17_7 : w16.cell? ⟨gb291, 7, none⟩ = some (.int .i64 a0_7) := (blk_cell BK291.out 7).trans rfl; have hfz17_0 := blk_frozen BK291.out 0; have hfz17_1 := blk_frozen BK291.out 1; have hfz17_2 := blk_frozen BK291.out 2; have hfz17_3 := blk_frozen BK291.out 3; have hfz17_4 := blk_frozen BK291.out 4; have hfz17_5 := blk_frozen BK291.out 5; have hfz17_6 := blk_frozen BK291.out 6; have hfz17_7 := blk_frozen BK291.out 7))
    go_ret
    exact ⟨by first | rfl | (simp [errW_none, errW_some] <;> rfl) | (simp [*, errW_none, errW_some] <;> rfl), bA⟩
   ·rw [if_neg c11] at H
    have c11b0 : decide (4611686018427387904 ≤ (wrap64 ((wrap64 ((wrap64 (a0_3 * 1099511627776)) + a0_4)) + (wrap64 (a0_5 * a0_0))))) = false := decide_eq_false c11
    clear c11; replace H := Option.bind_eq_some_iff.mp H; obtain ⟨⟨t294, t295, t296, t297⟩, A180, H⟩ := H; replace H : ((backfillref01_Times.f t294 t295 1000).bind fun bt300 => ((backfillref11_bound.f a0_0 a0_1 a0_2 a0_3 a0_4 a0_5 a0_6 a0_7).bind fun t304 => ((backfillref01_Times.f t296 t297 (IntKind.u64.wrap (wrap64 ((wrap64 ((wrap64 (a0_3 * t304)) + a0_4)) + (wrap64 (a0_5 * a0_0)))))).bind fun bt305 => ((backfillref01_Cmp.f k bt300.1 bt300.2.1 bt305.1 bt305.2.1).bind fun t309 => (if t309 > 0 then (some 113) else (some 0)))))) = some r := H; have A18 := Aside0.mk A180; clear A180; replace H := Option.bind_eq_some_iff.mp H; obtain ⟨⟨t300, t301, t302⟩, A190, H⟩ := H; replace H : ((backfillref11_bound.f a0_0 a0_1 a0_2 a0_3 a0_4 a0_5 a0_6 a0_7).bind fun t304 => ((backfillref01_Times.f t296 t297 (IntKind.u64.wrap (wrap64 ((wrap64 ((wrap64 (a0_3 * t304)) + a0_4)) + (wrap64 (a0_5 * a0_0)))))).bind fun bt305 => ((backfillref01_Cmp.f k t300 t301 bt305.1 bt305.2.1).bind fun t309 => (if t309 > 0 then (some 113) else (some 0))))) = some r := H; have A19 := Aside0.mk A190; clear A190; replace H := Option.bind_eq_some_iff.mp H; obtain ⟨t304, A200, H⟩ := H; replace H : ((backfillref01_Times.f t296 t297 (IntKind.u64.wrap (wrap64 ((wrap64 ((wrap64 (a0_3 * t304)) + a0_4)) + (wrap64 (a0_5 * a0_0)))))).bind fun bt305 => ((backfillref01_Cmp.f k t300 t301 bt305.1 bt305.2.1).bind fun t309 => (if t309 > 0 then (some 113) else (some 0)))) = some r := H; have A20 := Aside0.mk A200; clear A200; replace H := Option.bind_eq_some_iff.mp H; obtain ⟨⟨t305, t306, t307⟩, A210, H⟩ := H; replace H : ((backfillref01_Cmp.f k t300 t301 t305 t306).bind fun t309 => (if t309 > 0 then (some 113) else (some 0))) = some r := H; have A21 := Aside0.mk A210; clear A210; replace H := Option.bind_eq_some_iff.mp H; obtain ⟨t309, A220, H⟩ := H; replace H : (if t309 > 0 then (some 113) else (some 0)) = some r := H; have A22 := Aside0.mk A220; clear A220
    by_cases c23 : t309 > 0
    ·rw [if_pos c23] at H
     have c23b0 : decide (0 < t309) = true := decide_eq_true c23
     clear c23
     obtain rfl := Option.some.inj H
     go_enter Try.func14, Try.ntmps14
     try go_wp2_with (first | ((with_reducible refine gate_dst (N := 1) rfl ?_); refine bxA 1 #[.int .i64 a0_0, .int .i64 a0_1, .int .i64 a0_2, .int .i64 a0_3, .int .i64 a0_4, .int .i64 a0_5, .int .i64 a0_6, .int .i64 a0_7] 31 ?_; intro gb291 hg w24 hbox hb; have n0_ := Aside0.mk (below_step bA hb); have n1_ := Aside0.mk (hbox); have n2_ := Aside0.mk (gwA hg bA); have n3_ := Aside0.mk (gwA hg bA); clear HB; have HB := n0_; have BK291 := n1_; have GW291 := n2_; have GE291 := n3_; clear n0_ n1_ n2_ n3_ hb hbox hg; have hcz25_0 : w24.cell? ⟨gb291, 0, none⟩ = some (.int .i64 a0_0) := (blk_cell BK291.out 0).trans rfl; have hcz25_1 : w24.cell? ⟨gb291, 1, none⟩ = some (.int .i64 a0_1) := (blk_cell BK291.out 1).trans rfl; have hcz25_2 : w24.cell? ⟨gb291, 2, none⟩ = some (.int .i64 a0_2) := (blk_cell BK291.out 2).trans rfl; have hcz25_3 : w24.cell? ⟨gb291, 3, none⟩ = some (.int .i64 a0_3) := (blk_cell BK291.out 3).trans rfl; have hcz25_4 : w24.cell? ⟨gb291, 4, none⟩ = some (.int .i64 a0_4) := (blk_cell BK291.out 4).trans rfl; have hcz25_5 : w24.cell? ⟨gb291, 5, none⟩ = some (.int .i64 a0_5) := (blk_cell BK291.out 5).trans rfl; have hcz25_6 : w24.cell? ⟨gb291, 6, none⟩ = some (.int .i64 a0_6) := (blk_cell BK291.out 6).trans rfl; have hcz25_7 : w24.cell? ⟨gb291, 7, none⟩ = some (.int .i64 a0_7) := (blk_cell BK291.out 7).trans rfl; have hfz25_0 := blk_frozen BK291.out 0; have hfz25_1 := blk_frozen BK291.out 1; have hfz25_2 := blk_frozen BK291.out 2; have hfz25_3 := blk_frozen BK291.out 3; have hfz25_4 := blk_frozen BK291.out 4; have hfz25_5 := blk_frozen BK291.out 5; have hfz25_6 := blk_frozen BK291.out 6; have hfz25_7 := blk_frozen BK291.out 7) | ((with_reducible refine gate_callee (f := 25) rfl ?_); refine goesL_ (some 10) rfl rfl Try.func25 (by kernel_rfl) rfl #[.agg #[.int .i64 a0_0, .int .i64 a0_1, .int .i64 a0_2, .int .i64 a0_3, .int .i64 a0_4, .int .i64 a0_5, .int .i64 a0_6, .int .i64 a0_7]] rfl aA ?_; (with_reducible refine (backfillref11_ranges.calls k a0_0 a0_1 a0_2 a0_3 a0_4 a0_5 a0_6 a0_7 true _ A2.out).mono ?_); rintro e w26 ⟨rfl, hb⟩; refine ⟨_, rfl, ?_⟩; have n0_ := Aside0.mk (blk_below (g := gb291) kA hb); have n1_ := Aside0.mk (below_step bA hb); clear BK291 HB; have BK291 := n0_; have HB := n1_; clear n0_ n1_; (try clear hb); have hcz27_0 : w26.cell? ⟨gb291, 0, none⟩ = some (.int .i64 a0_0) := (blk_cell BK291.out 0).trans rfl; have hcz27_1 : w26.cell? ⟨gb291, 1, none⟩ = some (.int .i64 a0_1) := (blk_cell BK291.out 1).trans rfl; have hcz27_2 : w26.cell? ⟨gb291, 2, none⟩ = some (.int .i64 a0_2) := (blk_cell BK291.out 2).trans rfl; have hcz27_3 : w26.cell? ⟨gb291, 3, none⟩ = some (.int .i64 a0_3) := (blk_cell BK291.out 3).trans rfl; have hcz27_4 : w26.cell? ⟨gb291, 4, none⟩ = some (.int .i64 a0_4) := (blk_cell BK291.out 4).trans rfl; have hcz27_5 : w26.cell? ⟨gb291, 5, none⟩ = some (.int .i64 a0_5) := (blk_cell BK291.out 5).trans rfl; have hcz27_6 : w26.cell? ⟨gb291, 6, none⟩ = some (.int .i64 a0_6) := (blk_cell BK291.out 6).trans rfl; have hcz27_7 : w26.cell? ⟨gb291, 7, none⟩ = some (.int .i64 a0_7) := (blk_cell BK291.out 7).trans rfl; have hfz27_0 := blk_frozen BK291.out 0; have hfz27_1 := blk_frozen BK291.out 1; have hfz27_2 := blk_frozen BK291.out 2; have hfz27_3 := blk_frozen BK291.out 3; have hfz27_4 := blk_frozen BK291.out 4; have hfz27_5 := blk_frozen BK291.out 5; have hfz27_6 := blk_frozen BK291.out 6; have hfz27_7 := blk_frozen BK291.out 7) | ((with_reducible refine gate_callee (f := 26) rfl ?_); refine goesL_ (some 13) rfl rfl Try.func26 (by kernel_rfl) rfl #[.agg #[.int .i64 a0_0, .int .i64 a0_1, .int .i64 a0_2, .int .i64 a0_3, .int .i64 a0_4, .int .i64 a0_5, .int .i64 a0_6, .int .i64 a0_7]] rfl aA ?_; (with_reducible refine (backfillref11_M.calls a0_0 a0_1 a0_2 a0_3 a0_4 a0_5 a0_6 a0_7 t293 _ A4.out).mono ?_); rintro e w28 ⟨rfl, hb⟩; refine ⟨_, rfl, ?_⟩; have n0_ := Aside0.mk (blk_below (g := gb291) kA hb); have n1_ := Aside0.mk (below_step bA hb); clear BK291 HB; have BK291 := n0_; have HB := n1_; clear n0_ n1_; (try clear hb); have hcz29_0 : w28.cell? ⟨gb291, 0, none⟩ = some (.int .i64 a0_0) := (blk_cell BK291.out 0).trans rfl; have hcz29_1 : w28.cell? ⟨gb291, 1, none⟩ = some (.int .i64 a0_1) := (blk_cell BK291.out 1).trans rfl; have hcz29_2 : w28.cell? ⟨gb291, 2, none⟩ = some (.int .i64 a0_2) := (blk_cell BK291.out 2).trans rfl; have hcz29_3 : w28.cell? ⟨gb291, 3, none⟩ = some (.int .i64 a0_3) := (blk_cell BK291.out 3).trans rfl; have hcz29_4 : w28.cell? ⟨gb291, 4, none⟩ = some (.int .i64 a0_4) := (blk_cell BK291.out 4).trans rfl; have hcz29_5 : w28.cell? ⟨gb291, 5, none⟩ = some (.int .i64 a0_5) := (blk_cell BK291.out 5).trans rfl; have hcz29_6 : w28.cell? ⟨gb291, 6, none⟩ = some (.int .i64 a0_6) := (blk_cell BK291.out 6).trans rfl; have hcz29_7 : w28.cell? ⟨gb291, 7, none⟩ = some (.int .i64 a0_7) := (blk_cell BK291.out 7).trans rfl; have hfz29_0 := blk_frozen BK291.out 0; have hfz29_1 := blk_frozen BK291.out 1; have hfz29_2 := blk_frozen BK291.out 2; have hfz29_3 := blk_frozen BK291.out 3; have hfz29_4 := blk_frozen BK291.out 4; have hfz29_5 := blk_frozen BK291.out 5; have hfz29_6 := blk_frozen BK291.out 6; have hfz29_7 := blk_frozen BK291.out 7) | ((with_reducible refine gate_callee (f := 27) rfl ?_); refine goesL_ (some 30) rfl rfl Try.func27 (by kernel_rfl) rfl #[.agg #[.int .i64 a0_0, .int .i64 a0_1, .int .i64 a0_2, .int .i64 a0_3, .int .i64 a0_4, .int .i64 a0_5, .int .i64 a0_6, .int .i64 a0_7]] rfl aA ?_; (with_reducible refine (backfillref11_off.calls a0_0 a0_1 a0_2 a0_3 a0_4 a0_5 a0_6 a0_7 t294 t295 t296 t297 _ A18.out).mono ?_); rintro e w30 ⟨rfl, hb⟩; refine ⟨_, rfl, ?_⟩; have n0_ := Aside0.mk (blk_below (g := gb291) kA hb); have n1_ := Aside0.mk (below_step bA hb); clear BK291 HB; have BK291 := n0_; have HB := n1_; clear n0_ n1_; (try clear hb)) | ((with_reducible refine gate_dst (N := 3) rfl ?_); refine bxA 3 #[.int .u64 0, .int .u64 0] 56 ?_; intro gb298 hg w31 hbox hb; have n0_ := Aside0.mk (blk_below (g := gb291) kA hb); have n1_ := Aside0.mk (below_step bA hb); have n2_ := Aside0.mk (hbox); have n3_ := Aside0.mk (gwA hg bA); have n4_ := Aside0.mk (gwA hg bA); have n5_ := Aside0.mk (neA (g := gb291) hg kA); have n6_ := Aside0.mk (neB (g := gb291) hg kA); clear BK291 HB; have BK291 := n0_; have HB := n1_; have BK298 := n2_; have GW298 := n3_; have GE298 := n4_; have NB291_298 := n5_; have NB298_291 := n6_; clear n0_ n1_ n2_ n3_ n4_ n5_ n6_ hb hbox hg) | ((with_reducible refine gate_dst (N := 4) rfl ?_); refine bxA 4 #[.int .u64 0, .int .u64 0] 56 ?_; intro gb299 hg w32 hbox hb; have n0_ := Aside0.mk (blk_below (g := gb291) kA hb); have n1_ := Aside0.mk (blk_below (g := gb298) kA hb); have n2_ := Aside0.mk (below_step bA hb); have n3_ := Aside0.mk (hbox); have n4_ := Aside0.mk (gwA hg bA); have n5_ := Aside0.mk (gwA hg bA); have n6_ := Aside0.mk (neA (g := gb291) hg kA); have n7_ := Aside0.mk (neB (g := gb291) hg kA); have n8_ := Aside0.mk (neA (g := gb298) hg kA); have n9_ := Aside0.mk (neB (g := gb298) hg kA); clear BK291 BK298 HB; have BK291 := n0_; have BK298 := n1_; have HB := n2_; have BK299 := n3_; have GW299 := n4_; have GE299 := n5_; have NB291_299 := n6_; have NB299_291 := n7_; have NB298_299 := n8_; have NB299_298 := n9_; clear n0_ n1_ n2_ n3_ n4_ n5_ n6_ n7_ n8_ n9_ hb hbox hg; have hnb33 := NB298_291.out; have hnc33 := NB291_298.out; have hnb34 := NB298_299.out; have hnc34 := NB299_298.out; have hcz35_0 : w32.cell? ⟨gb298, 0, none⟩ = some (.int .u64 0) := (blk_cell BK298.out 0).trans rfl; have hcz35_1 : w32.cell? ⟨gb298, 1, none⟩ = some (.int .u64 0) := (blk_cell BK298.out 1).trans rfl; have hfz35_0 := blk_frozen BK298.out 0; have hfz35_1 := blk_frozen BK298.out 1; have hnb36 := NB299_291.out; have hnc36 := NB291_299.out; have hcz37_0 : w32.cell? ⟨gb299, 0, none⟩ = some (.int .u64 0) := (blk_cell BK299.out 0).trans rfl; have hcz37_1 : w32.cell? ⟨gb299, 1, none⟩ = some (.int .u64 0) := (blk_cell BK299.out 1).trans rfl; have hfz37_0 := blk_frozen BK299.out 0; have hfz37_1 := blk_frozen BK299.out 1) | ((with_reducible refine gate_callee (f := 28) rfl ?_); refine goesL_ (some 35) rfl rfl Try.func28 (by kernel_rfl) rfl #[.agg #[.int .u64 t294, .int .u64 t295], .int .u64 1000] rfl aA ?_; (with_reducible refine (backfillref01_Times.calls t294 t295 1000 t300 t301 t302 _ A19.out).mono ?_); rintro e w38 ⟨rfl, hb⟩; refine ⟨_, rfl, ?_⟩; have n0_ := Aside0.mk (blk_below (g := gb291) (o := .cells #[.int .i64 a0_0, .int .i64 a0_1, .int .i64 a0_2, .int .i64 a0_3, .int .i64 a0_4, .int .i64 a0_5, .int .i64 a0_6, .int .i64 a0_7] 31 (0, 0)) (by (with_reducible repeat (first | refine blk_drewN ?_ _ | refine blk_drew ?_ | refine blk_alloc ?_ _)); refine blk_far ?_ NB291_299.out _; (with_reducible repeat (first | refine blk_drewN ?_ _ | refine blk_drew ?_ | refine blk_alloc ?_ _)); refine blk_far ?_ NB291_299.out _; (with_reducible repeat (first | refine blk_drewN ?_ _ | refine blk_drew ?_ | refine blk_alloc ?_ _)); refine blk_far ?_ NB291_298.out _; (with_reducible repeat (first | refine blk_drewN ?_ _ | refine blk_drew ?_ | refine blk_alloc ?_ _)); refine blk_far ?_ NB291_298.out _; exact kA) hb); have n1_ := Aside0.mk (blk_below (g := gb298) (o := .cells #[.int .u64 t294, .int .u64 t295] 56 (0, 0)) (by (with_reducible repeat (first | refine blk_drewN ?_ _ | refine blk_drew ?_ | refine blk_alloc ?_ _)); refine blk_far ?_ NB298_299.out _; (with_reducible repeat (first | refine blk_drewN ?_ _ | refine blk_drew ?_ | refine blk_alloc ?_ _)); refine blk_far ?_ NB298_299.out _; (with_reducible repeat (first | refine blk_drewN ?_ _ | refine blk_drew ?_ | refine blk_alloc ?_ _)); refine blk_put (cs := #[.int .u64 t294, .int .u64 0]) ?_ 1 _ rfl; (with_reducible repeat (first | refine blk_drewN ?_ _ | refine blk_drew ?_ | refine blk_alloc ?_ _)); refine blk_put (cs := #[.int .u64 0, .int .u64 0]) ?_ 0 _ rfl; exact kA) hb); have n2_ := Aside0.mk (blk_below (g := gb299) (o := .cells #[.int .u64 t296, .int .u64 t297] 56 (0, 0)) (by (with_reducible repeat (first | refine blk_drewN ?_ _ | refine blk_drew ?_ | refine blk_alloc ?_ _)); refine blk_put (cs := #[.int .u64 t296, .int .u64 0]) ?_ 1 _ rfl; (with_reducible repeat (first | refine blk_drewN ?_ _ | refine blk_drew ?_ | refine blk_alloc ?_ _)); refine blk_put (cs := #[.int .u64 0, .int .u64 0]) ?_ 0 _ rfl; (with_reducible repeat (first | refine blk_drewN ?_ _ | refine blk_drew ?_ | refine blk_alloc ?_ _)); refine blk_far ?_ NB299_298.out _; (with_reducible repeat (first | refine blk_drewN ?_ _ | refine blk_drew ?_ | refine blk_alloc ?_ _)); refine blk_far ?_ NB299_298.out _; exact kA) hb); have n3_ := Aside0.mk (below_step bA hb); clear BK291 BK298 BK299 HB; have BK291 := n0_; have BK298 := n1_; have BK299 := n2_; have HB := n3_; clear n0_ n1_ n2_ n3_; (try clear hb)) | ((with_reducible refine gate_dst (N := 5) rfl ?_); refine bxA 5 #[.int .u64 0, .int .u64 0] 56 ?_; intro gb303 hg w39 hbox hb; have n0_ := Aside0.mk (blk_below (g := gb291) kA hb); have n1_ := Aside0.mk (blk_below (g := gb298) kA hb); have n2_ := Aside0.mk (blk_below (g := gb299) kA hb); have n3_ := Aside0.mk (below_step bA hb); have n4_ := Aside0.mk (hbox); have n5_ := Aside0.mk (gwA hg bA); have n6_ := Aside0.mk (gwA hg bA); have n7_ := Aside0.mk (neA (g := gb291) hg kA); have n8_ := Aside0.mk (neB (g := gb291) hg kA); have n9_ := Aside0.mk (neA (g := gb298) hg kA); have n10_ := Aside0.mk (neB (g := gb298) hg kA); have n11_ := Aside0.mk (neA (g := gb299) hg kA); have n12_ := Aside0.mk (neB (g := gb299) hg kA); clear BK291 BK298 BK299 HB; have BK291 := n0_; have BK298 := n1_; have BK299 := n2_; have HB := n3_; have BK303 := n4_; have GW303 := n5_; have GE303 := n6_; have NB291_303 := n7_; have NB303_291 := n8_; have NB298_303 := n9_; have NB303_298 := n10_; have NB299_303 := n11_; have NB303_299 := n12_; clear n0_ n1_ n2_ n3_ n4_ n5_ n6_ n7_ n8_ n9_ n10_ n11_ n12_ hb hbox hg; have hnb40 := NB303_291.out; have hnc40 := NB291_303.out; have hnb41 := NB303_298.out; have hnc41 := NB298_303.out; have hnb42 := NB303_299.out; have hnc42 := NB299_303.out; have hcz43_0 : w39.cell? ⟨gb303, 0, none⟩ = some (.int .u64 0) := (blk_cell BK303.out 0).trans rfl; have hcz43_1 : w39.cell? ⟨gb303, 1, none⟩ = some (.int .u64 0) := (blk_cell BK303.out 1).trans rfl; have hfz43_0 := blk_frozen BK303.out 0; have hfz43_1 := blk_frozen BK303.out 1))
     have n0_ : Aside0 (((w39.setCell ⟨gb303, 0, none⟩ (.int .u64 t300)).setCell ⟨gb303, 1, none⟩ (.int .u64 t301)).heap[gb291]? = some (.cells #[.int .i64 a0_0, .int .i64 a0_1, .int .i64 a0_2, .int .i64 a0_3, .int .i64 a0_4, .int .i64 a0_5, .int .i64 a0_6, .int .i64 a0_7] 31 (0, 0))) := ⟨by (with_reducible repeat (first | refine blk_drewN ?_ _ | refine blk_drew ?_ | refine blk_alloc ?_ _)); refine blk_far ?_ NB291_303.out _; (with_reducible repeat (first | refine blk_drewN ?_ _ | refine blk_drew ?_ | refine blk_alloc ?_ _)); refine blk_far ?_ NB291_303.out _; exact kA⟩
     have n1_ : Aside0 (((w39.setCell ⟨gb303, 0, none⟩ (.int .u64 t300)).setCell ⟨gb303, 1, none⟩ (.int .u64 t301)).heap[gb298]? = some (.cells #[.int .u64 t294, .int .u64 t295] 56 (0, 0))) := ⟨by (with_reducible repeat (first | refine blk_drewN ?_ _ | refine blk_drew ?_ | refine blk_alloc ?_ _)); refine blk_far ?_ NB298_303.out _; (with_reducible repeat (first | refine blk_drewN ?_ _ | refine blk_drew ?_ | refine blk_alloc ?_ _)); refine blk_far ?_ NB298_303.out _; exact kA⟩
     have n2_ : Aside0 (((w39.setCell ⟨gb303, 0, none⟩ (.int .u64 t300)).setCell ⟨gb303, 1, none⟩ (.int .u64 t301)).heap[gb299]? = some (.cells #[.int .u64 t296, .int .u64 t297] 56 (0, 0))) := ⟨by (with_reducible repeat (first | refine blk_drewN ?_ _ | refine blk_drew ?_ | refine blk_alloc ?_ _)); refine blk_far ?_ NB299_303.out _; (with_reducible repeat (first | refine blk_drewN ?_ _ | refine blk_drew ?_ | refine blk_alloc ?_ _)); refine blk_far ?_ NB299_303.out _; exact kA⟩
     have n3_ : Aside0 (((w39.setCell ⟨gb303, 0, none⟩ (.int .u64 t300)).setCell ⟨gb303, 1, none⟩ (.int .u64 t301)).heap[gb303]? = some (.cells #[.int .u64 t300, .int .u64 t301] 56 (0, 0))) := ⟨by (with_reducible repeat (first | refine blk_drewN ?_ _ | refine blk_drew ?_ | refine blk_alloc ?_ _)); refine blk_put (cs := #[.int .u64 t300, .int .u64 0]) ?_ 1 _ rfl; (with_reducible repeat (first | refine blk_drewN ?_ _ | refine blk_drew ?_ | refine blk_alloc ?_ _)); refine blk_put (cs := #[.int .u64 0, .int .u64 0]) ?_ 0 _ rfl; exact kA⟩
     have n4_ : Aside0 (Below w.heap.size w ((w39.setCell ⟨gb303, 0, none⟩ (.int .u64 t300)).setCell ⟨gb303, 1, none⟩ (.int .u64 t301))) := ⟨bA⟩
     (try clear BK291); (try clear BK298); (try clear BK299); (try clear BK303); (try clear HB)
     generalize ((w39.setCell ⟨gb303, 0, none⟩ (.int .u64 t300)).setCell ⟨gb303, 1, none⟩ (.int .u64 t301)) = w44 at n0_ n1_ n2_ n3_ n4_ ⊢
     have BK291 := n0_; have BK298 := n1_; have BK299 := n2_; have BK303 := n3_; have HB := n4_; clear n0_ n1_ n2_ n3_ n4_; have n0_ := Aside0.mk (blk_drew BK291.out); have n1_ := Aside0.mk (blk_drew BK298.out); have n2_ := Aside0.mk (blk_drew BK299.out); have n3_ := Aside0.mk (blk_drew BK303.out); have n4_ := Aside0.mk (below_drew1 HB.out); clear BK291 BK298 BK299 BK303 HB; have BK291 := n0_; have BK298 := n1_; have BK299 := n2_; have BK303 := n3_; have HB := n4_; clear n0_ n1_ n2_ n3_ n4_
     refine start_ (n := 23) (S := fun w' => w'.cell? ⟨gb299, 0, none⟩ = some (.int .u64 t296) ∧ w'.cell? ⟨gb299, 1, none⟩ = some (.int .u64 t297) ∧ w'.cell? ⟨gb291, 0, none⟩ = some (.int .i64 a0_0) ∧ w'.cell? ⟨gb291, 1, none⟩ = some (.int .i64 a0_1) ∧ w'.cell? ⟨gb291, 2, none⟩ = some (.int .i64 a0_2) ∧ w'.cell? ⟨gb291, 3, none⟩ = some (.int .i64 a0_3) ∧ w'.cell? ⟨gb291, 4, none⟩ = some (.int .i64 a0_4) ∧ w'.cell? ⟨gb291, 5, none⟩ = some (.int .i64 a0_5) ∧ w'.cell? ⟨gb291, 6, none⟩ = some (.int .i64 a0_6) ∧ w'.cell? ⟨gb291, 7, none⟩ = some (.int .i64 a0_7)) (ds := []) #[false, false, false, false, false, false, false, false, false, false, false, false, false, false, false, false, false, false, false, false, false, false, false] (by kernel_rfl) rfl rfl ⟨(blk_cell BK299.out 0).trans rfl, (blk_cell BK299.out 1).trans rfl, (blk_cell BK291.out 0).trans rfl, (blk_cell BK291.out 1).trans rfl, (blk_cell BK291.out 2).trans rfl, (blk_cell BK291.out 3).trans rfl, (blk_cell BK291.out 4).trans rfl, (blk_cell BK291.out 5).trans rfl, (blk_cell BK291.out 6).trans rfl, (blk_cell BK291.out 7).trans rfl⟩ (fun hHeld => ?_); refine with_tabW backfillref11_Check.tab9 backfillref11_Check.bits9 (fun HT_ HW_ => ?_)
     generalize w44.drew = w45 at BK291 BK298 BK299 BK303 HB hHeld ⊢
     refine pure_ (i := 1) (N := some 40) (v := ?_) (a' := ?_) #[false, true, false, false, false, false, false, false, false, false, false, false, false, false, false, false, false, false, false, false, false, false, false] rfl rfl (any_of HT_.out (by kernel_rfl)) (fun _ _ _ h => h) (Or.inl ⟨by rfl, ?_⟩) ?_ ?_
     rotate_left
     ·intro w'
      go_simp; with_reducible rfl
     rotate_left
     ·simp only [Act.put, List.setIfInBounds_toArray, List.set_cons_zero, List.set_cons_succ, i64_w, i32_w]
      rfl
     refine pure_ (i := 6) (N := some 45) (v := ?_) (a' := ?_) #[false, true, false, false, false, false, true, false, false, false, false, false, false, false, false, false, false, false, false, false, false, false, false] rfl rfl (any_of HT_.out (by kernel_rfl)) (fun _ _ _ h => h) (Or.inl ⟨by rfl, ?_⟩) ?_ ?_
     rotate_left
     ·intro w'
      go_simp; with_reducible rfl
     rotate_left
     ·simp only [Act.put, List.setIfInBounds_toArray, List.set_cons_zero, List.set_cons_succ, i64_w, i32_w]
      rfl
     refine pure_ (i := 9) (N := some 48) (v := ?_) (a' := ?_) #[false, true, false, false, false, false, true, false, false, true, false, false, false, false, false, false, false, false, false, false, false, false, false] rfl rfl (any_of HT_.out (by kernel_rfl)) (fun _ _ _ h => h) (Or.inl ⟨by rfl, ?_⟩) ?_ ?_
     rotate_left
     ·intro w'
      go_simp; with_reducible rfl
     rotate_left
     ·simp only [Act.put, List.setIfInBounds_toArray, List.set_cons_zero, List.set_cons_succ, i64_w, i32_w]
      rfl
     refine pure_ (i := 11) (N := some 50) (v := ?_) (a' := ?_) #[false, true, false, false, false, false, true, false, false, true, false, true, false, false, false, false, false, false, false, false, false, false, false] rfl rfl (any_of HT_.out (by kernel_rfl)) (fun _ _ _ h => h) (Or.inl ⟨by rfl, ?_⟩) ?_ ?_
     rotate_left
     ·intro w'
      go_simp; with_reducible rfl
     rotate_left
     ·simp only [Act.put, List.setIfInBounds_toArray, List.set_cons_zero, List.set_cons_succ, i64_w, i32_w]
      rfl
     refine take_ (i := 0) (N := some 39) (v := ?_) (a' := ?_) #[true, true, false, false, false, false, true, false, false, true, false, true, false, false, false, false, false, false, false, false, false, false, false] rfl rfl (take_ofW HT_.out HW_.out (by kernel_rfl)) (fun _ _ _ h => h) (Or.inl ⟨by rfl, ?_⟩) hHeld ?_ ?_
     rotate_left
     ·rintro w' ⟨s0, s1, s2, s3, s4, s5, s6, s7, s8, s9⟩
      go_simp; with_reducible rfl
     rotate_left
     ·simp only [Act.put, List.setIfInBounds_toArray, List.set_cons_zero, List.set_cons_succ, i64_w, i32_w]
      rfl
     refine take_ (i := 2) (N := some 41) (v := ?_) (a' := ?_) #[true, true, true, false, false, false, true, false, false, true, false, true, false, false, false, false, false, false, false, false, false, false, false] rfl rfl (take_ofW HT_.out HW_.out (by kernel_rfl)) (fun _ _ _ h => h) (Or.inl ⟨by rfl, ?_⟩) hHeld ?_ ?_
     rotate_left
     ·rintro w' ⟨s0, s1, s2, s3, s4, s5, s6, s7, s8, s9⟩
      go_simp; with_reducible rfl
     rotate_left
     ·simp only [Act.put, List.setIfInBounds_toArray, List.set_cons_zero, List.set_cons_succ, i64_w, i32_w]
      rfl
     refine take_ (i := 3) (N := some 42) (v := ?_) (a' := ?_) #[true, true, true, true, false, false, true, false, false, true, false, true, false, false, false, false, false, false, false, false, false, false, false] rfl rfl (take_ofW HT_.out HW_.out (by kernel_rfl)) (fun _ _ _ h => h) (Or.inl ⟨by rfl, ?_⟩) hHeld ?_ ?_
     rotate_left
     ·rintro w' ⟨s0, s1, s2, s3, s4, s5, s6, s7, s8, s9⟩
      go_simp; with_reducible rfl
     rotate_left
     ·simp only [Act.put, List.setIfInBounds_toArray, List.set_cons_zero, List.set_cons_succ, i64_w, i32_w]
      rfl
     refine take_ (i := 7) (N := some 46) (v := ?_) (a' := ?_) #[true, true, true, true, false, false, true, true, false, true, false, true, false, false, false, false, false, false, false, false, false, false, false] rfl rfl (take_ofW HT_.out HW_.out (by kernel_rfl)) (fun _ _ _ h => h) (Or.inl ⟨by rfl, ?_⟩) hHeld ?_ ?_
     rotate_left
     ·rintro w' ⟨s0, s1, s2, s3, s4, s5, s6, s7, s8, s9⟩
      go_simp; with_reducible rfl
     rotate_left
     ·simp only [Act.put, List.setIfInBounds_toArray, List.set_cons_zero, List.set_cons_succ, i64_w, i32_w]
      rfl
     refine take_ (i := 10) (N := some 49) (v := ?_) (a' := ?_) #[true, true, true, true, false, false, true, true, false, true, true, true, false, false, false, false, false, false, false, false, false, false, false] rfl rfl (take_ofW HT_.out HW_.out (by kernel_rfl)) (fun _ _ _ h => h) (Or.inl ⟨by rfl, ?_⟩) hHeld ?_ ?_
     rotate_left
     ·rintro w' ⟨s0, s1, s2, s3, s4, s5, s6, s7, s8, s9⟩
      go_simp; with_reducible rfl
     rotate_left
     ·simp only [Act.put, List.setIfInBounds_toArray, List.set_cons_zero, List.set_cons_succ, i64_w, i32_w]
      rfl
     refine take_ (i := 12) (N := some 51) (v := ?_) (a' := ?_) #[true, true, true, true, false, false, true, true, false, true, true, true, true, false, false, false, false, false, false, false, false, false, false] rfl rfl (take_ofW HT_.out HW_.out (by kernel_rfl)) (fun _ _ _ h => h) (Or.inl ⟨by rfl, ?_⟩) hHeld ?_ ?_
     rotate_left
     ·rintro w' ⟨s0, s1, s2, s3, s4, s5, s6, s7, s8, s9⟩
      go_simp; with_reducible rfl
     rotate_left
     ·simp only [Act.put, List.setIfInBounds_toArray, List.set_cons_zero, List.set_cons_succ, i64_w, i32_w]
      rfl
     refine pure_ (i := 13) (N := some 52) (v := ?_) (a' := ?_) #[true, true, true, true, false, false, true, true, false, true, true, true, true, true, false, false, false, false, false, false, false, false, false] rfl rfl (any_of HT_.out (by kernel_rfl)) (fun _ _ _ h => h) (Or.inl ⟨by rfl, ?_⟩) ?_ ?_
     rotate_left
     ·intro w'
      go_simp; with_reducible rfl
     rotate_left
     ·simp only [Act.put, List.setIfInBounds_toArray, List.set_cons_zero, List.set_cons_succ, i64_w, i32_w]
      rfl
     refine join_ (σ := Nat) 2 #[true, true, true, true, true, true, true, true, true, true, true, true, true, true, true, true, true, true, true, true, true, false, false] (fun s_ => [(43, .int .i64 t304), (55, .tuple #[.agg #[.int .u64 t305, .int .u64 t306], .bool t307]), (7, .pointer (some ⟨s_, 0, none⟩)), (44, .int .i64 (wrap64 (a0_3 * t304))), (47, .int .i64 (wrap64 ((wrap64 (a0_3 * t304)) + a0_4))), (53, .int .i64 (wrap64 ((wrap64 ((wrap64 (a0_3 * t304)) + a0_4)) + (wrap64 (a0_5 * a0_0))))), (54, .int .u64 (IntKind.u64.wrap (wrap64 ((wrap64 ((wrap64 (a0_3 * t304)) + a0_4)) + (wrap64 (a0_5 * a0_0)))))), (38, .tuple #[.agg #[.int .u64 t305, .int .u64 t306], .bool t307]), (56, .agg #[.int .u64 t305, .int .u64 t306]), (57, .bool t307)]) (fun s_ w' => (w'.cell? ⟨gb299, 0, none⟩ = some (.int .u64 t296) ∧ w'.cell? ⟨gb299, 1, none⟩ = some (.int .u64 t297) ∧ w'.cell? ⟨gb291, 0, none⟩ = some (.int .i64 a0_0) ∧ w'.cell? ⟨gb291, 1, none⟩ = some (.int .i64 a0_1) ∧ w'.cell? ⟨gb291, 2, none⟩ = some (.int .i64 a0_2) ∧ w'.cell? ⟨gb291, 3, none⟩ = some (.int .i64 a0_3) ∧ w'.cell? ⟨gb291, 4, none⟩ = some (.int .i64 a0_4) ∧ w'.cell? ⟨gb291, 5, none⟩ = some (.int .i64 a0_5) ∧ w'.cell? ⟨gb291, 6, none⟩ = some (.int .i64 a0_6) ∧ w'.cell? ⟨gb291, 7, none⟩ = some (.int .i64 a0_7)) ∧ (w'.heap[gb291]? = some (.cells #[.int .i64 a0_0, .int .i64 a0_1, .int .i64 a0_2, .int .i64 a0_3, .int .i64 a0_4, .int .i64 a0_5, .int .i64 a0_6, .int .i64 a0_7] 31 (0, 0))) ∧ (w'.heap[gb298]? = some (.cells #[.int .u64 t294, .int .u64 t295] 56 (0, 0))) ∧ (w'.heap[gb299]? = some (.cells #[.int .u64 t296, .int .u64 t297] 56 (0, 0))) ∧ (w'.heap[gb303]? = some (.cells #[.int .u64 t300, .int .u64 t301] 56 (0, 0))) ∧ (w'.heap[s_]? = some (.cells #[.int .u64 0, .int .u64 0] 56 (0, 0))) ∧ (w.heap.size ≤ s_) ∧ (w.heap.size ≤ s_) ∧ (gb291 ≠ s_) ∧ (s_ ≠ gb291) ∧ (gb298 ≠ s_) ∧ (s_ ≠ gb298) ∧ (gb299 ≠ s_) ∧ (s_ ≠ gb299) ∧ (gb303 ≠ s_) ∧ (s_ ≠ gb303) ∧ (Below w.heap.size w w')) ?_ ?_
     rotate_left
     ·intro hCont
      refine two_ (i := 4) (j := 20) (Ni := some 43) (Nj := some 7) #[true, true, true, true, true, false, true, true, false, true, true, true, true, true, false, false, false, false, false, false, false, false, false] #[true, true, true, true, false, false, true, true, false, true, true, true, true, true, false, false, false, false, false, false, true, false, false] rfl rfl rfl rfl (two_of HT_.out (by kernel_rfl)) (by decide) (by decide) (fun K hK => ?_) (fun K hK => ?_)
      ·skip
       refine goes_ Try.func29 (by kernel_rfl) rfl #[.agg #[.int .i64 a0_0, .int .i64 a0_1, .int .i64 a0_2, .int .i64 a0_3, .int .i64 a0_4, .int .i64 a0_5, .int .i64 a0_6, .int .i64 a0_7]] (by rfl) rfl rfl aA ?_
       with_reducible refine (backfillref11_bound.calls a0_0 a0_1 a0_2 a0_3 a0_4 a0_5 a0_6 a0_7 t304 _ A20.out).mono ?_
       rintro e w46 ⟨rfl, hb⟩
       refine ⟨_, rfl, ?_⟩; have n0_ := Aside0.mk (blk_below (g := gb291) kA hb); have n1_ := Aside0.mk (blk_below (g := gb298) kA hb); have n2_ := Aside0.mk (blk_below (g := gb299) kA hb); have n3_ := Aside0.mk (blk_below (g := gb303) kA hb); have n4_ := Aside0.mk (below_step bA hb); clear BK291 BK298 BK299 BK303 HB; have BK291 := n0_; have BK298 := n1_; have BK299 := n2_; have BK303 := n3_; have HB := n4_; clear n0_ n1_ n2_ n3_ n4_; (try clear hb)
       refine hK.out _ _ ⟨(blk_cell BK299.out 0).trans rfl, (blk_cell BK299.out 1).trans rfl, (blk_cell BK291.out 0).trans rfl, (blk_cell BK291.out 1).trans rfl, (blk_cell BK291.out 2).trans rfl, (blk_cell BK291.out 3).trans rfl, (blk_cell BK291.out 4).trans rfl, (blk_cell BK291.out 5).trans rfl, (blk_cell BK291.out 6).trans rfl, (blk_cell BK291.out 7).trans rfl⟩ (fun hHeld => ?_)
       clear hK K
       refine norm_ (a' := ?_) ?_ ?_
       rotate_left
       ·show Act.put _ (some 43) _ = _
        simp only [Act.put, List.setIfInBounds_toArray, List.set_cons_zero, List.set_cons_succ, i64_w, i32_w]
        rfl
       refine pure_ (i := 5) (N := some 44) (v := ?_) (a' := ?_) #[true, true, true, true, true, true, true, true, false, true, true, true, true, true, false, false, false, false, false, false, false, false, false] rfl rfl (any_of HT_.out (by kernel_rfl)) (fun _ _ _ h => h) (Or.inl ⟨by rfl, ?_⟩) ?_ ?_
       rotate_left
       ·intro w'
        go_simp; with_reducible rfl
       rotate_left
       ·simp only [Act.put, List.setIfInBounds_toArray, List.set_cons_zero, List.set_cons_succ, i64_w, i32_w]
        rfl
       refine pure_ (i := 8) (N := some 47) (v := ?_) (a' := ?_) #[true, true, true, true, true, true, true, true, true, true, true, true, true, true, false, false, false, false, false, false, false, false, false] rfl rfl (any_of HT_.out (by kernel_rfl)) (fun _ _ _ h => h) (Or.inl ⟨by rfl, ?_⟩) ?_ ?_
       rotate_left
       ·intro w'
        go_simp; with_reducible rfl
       rotate_left
       ·simp only [Act.put, List.setIfInBounds_toArray, List.set_cons_zero, List.set_cons_succ, i64_w, i32_w]
        rfl
       refine pure_ (i := 14) (N := some 53) (v := ?_) (a' := ?_) #[true, true, true, true, true, true, true, true, true, true, true, true, true, true, true, false, false, false, false, false, false, false, false] rfl rfl (any_of HT_.out (by kernel_rfl)) (fun _ _ _ h => h) (Or.inl ⟨by rfl, ?_⟩) ?_ ?_
       rotate_left
       ·intro w'
        go_simp; with_reducible rfl
       rotate_left
       ·simp only [Act.put, List.setIfInBounds_toArray, List.set_cons_zero, List.set_cons_succ, i64_w, i32_w]
        rfl
       refine pure_ (i := 15) (N := some 54) (v := ?_) (a' := ?_) #[true, true, true, true, true, true, true, true, true, true, true, true, true, true, true, true, false, false, false, false, false, false, false] rfl rfl (any_of HT_.out (by kernel_rfl)) (fun _ _ _ h => h) (Or.inl ⟨by rfl, ?_⟩) ?_ ?_
       rotate_left
       ·intro w'
        go_simp; with_reducible rfl
       rotate_left
       ·simp only [Act.put, List.setIfInBounds_toArray, List.set_cons_zero, List.set_cons_succ, i64_w, i32_w]
        rfl
       refine two_ (i := 16) (j := 20) (Ni := some 55) (Nj := some 7) #[true, true, true, true, true, true, true, true, true, true, true, true, true, true, true, true, true, false, false, false, false, false, false] #[true, true, true, true, true, true, true, true, true, true, true, true, true, true, true, true, false, false, false, false, true, false, false] rfl rfl rfl rfl (two_of HT_.out (by kernel_rfl)) (by decide) (by decide) (fun K hK => ?_) (fun K hK => ?_)
       ·skip
        refine goes_ Try.func28 (by kernel_rfl) rfl #[.agg #[.int .u64 t296, .int .u64 t297], .int .u64 (IntKind.u64.wrap (wrap64 ((wrap64 ((wrap64 (a0_3 * t304)) + a0_4)) + (wrap64 (a0_5 * a0_0)))))] (by rfl) rfl rfl aA ?_
        with_reducible refine (backfillref01_Times.calls t296 t297 (IntKind.u64.wrap (wrap64 ((wrap64 ((wrap64 (a0_3 * t304)) + a0_4)) + (wrap64 (a0_5 * a0_0))))) t305 t306 t307 _ A21.out).mono ?_
        rintro e w47 ⟨rfl, hb⟩
        refine ⟨_, rfl, ?_⟩; have n0_ := Aside0.mk (blk_below (g := gb291) kA hb); have n1_ := Aside0.mk (blk_below (g := gb298) kA hb); have n2_ := Aside0.mk (blk_below (g := gb299) kA hb); have n3_ := Aside0.mk (blk_below (g := gb303) kA hb); have n4_ := Aside0.mk (below_step bA hb); clear BK291 BK298 BK299 BK303 HB; have BK291 := n0_; have BK298 := n1_; have BK299 := n2_; have BK303 := n3_; have HB := n4_; clear n0_ n1_ n2_ n3_ n4_; (try clear hb)
        refine hK.out _ _ ⟨(blk_cell BK299.out 0).trans rfl, (blk_cell BK299.out 1).trans rfl, (blk_cell BK291.out 0).trans rfl, (blk_cell BK291.out 1).trans rfl, (blk_cell BK291.out 2).trans rfl, (blk_cell BK291.out 3).trans rfl, (blk_cell BK291.out 4).trans rfl, (blk_cell BK291.out 5).trans rfl, (blk_cell BK291.out 6).trans rfl, (blk_cell BK291.out 7).trans rfl⟩ (fun hHeld => ?_)
        clear hK K
        refine norm_ (a' := ?_) ?_ ?_
        rotate_left
        ·show Act.put _ (some 55) _ = _
         simp only [Act.put, List.setIfInBounds_toArray, List.set_cons_zero, List.set_cons_succ, i64_w, i32_w]
         rfl
        refine pure_ (i := 17) (N := some 38) (v := ?_) (a' := ?_) #[true, true, true, true, true, true, true, true, true, true, true, true, true, true, true, true, true, true, false, false, false, false, false] rfl rfl (any_of HT_.out (by kernel_rfl)) (fun _ _ _ h => h) (Or.inl ⟨by rfl, ?_⟩) ?_ ?_
        rotate_left
        ·intro w'
         go_simp; with_reducible rfl
        rotate_left
        ·simp only [Act.put, List.setIfInBounds_toArray, List.set_cons_zero, List.set_cons_succ, i64_w, i32_w]
         rfl
        refine pure_ (i := 18) (N := some 56) (v := ?_) (a' := ?_) #[true, true, true, true, true, true, true, true, true, true, true, true, true, true, true, true, true, true, true, false, false, false, false] rfl rfl (any_of HT_.out (by kernel_rfl)) (fun _ _ _ h => h) (Or.inl ⟨by rfl, ?_⟩) ?_ ?_
        rotate_left
        ·intro w'
         go_simp; with_reducible rfl
        rotate_left
        ·simp only [Act.put, List.setIfInBounds_toArray, List.set_cons_zero, List.set_cons_succ, i64_w, i32_w]
         rfl
        refine pure_ (i := 19) (N := some 57) (v := ?_) (a' := ?_) #[true, true, true, true, true, true, true, true, true, true, true, true, true, true, true, true, true, true, true, true, false, false, false] rfl rfl (any_of HT_.out (by kernel_rfl)) (fun _ _ _ h => h) (Or.inl ⟨by rfl, ?_⟩) ?_ ?_
        rotate_left
        ·intro w'
         go_simp; with_reducible rfl
        rotate_left
        ·simp only [Act.put, List.setIfInBounds_toArray, List.set_cons_zero, List.set_cons_succ, i64_w, i32_w]
         rfl
        refine one_ (i := 20) (N := some 7) #[true, true, true, true, true, true, true, true, true, true, true, true, true, true, true, true, true, true, true, true, true, false, false] rfl rfl (one_of HT_.out (by kernel_rfl)) (by decide) (fun K hK => ?_)
        refine box_step ?hg (N := 7) ?hd (cs := #[.int .u64 0, .int .u64 0]) (t := 56) ?hr ?_; (case hd => rfl); (case hg => rfl); (case hr => first | (go_simp; done) | (go_simp; rfl))
        intro gb308 hg w48 hbox hb
        have n0_ := Aside0.mk (blk_below (g := gb291) kA hb); have n1_ := Aside0.mk (blk_below (g := gb298) kA hb); have n2_ := Aside0.mk (blk_below (g := gb299) kA hb); have n3_ := Aside0.mk (blk_below (g := gb303) kA hb); have n4_ := Aside0.mk (below_step bA hb); have n5_ := Aside0.mk (hbox); have n6_ := Aside0.mk (gwA hg bA); have n7_ := Aside0.mk (gwA hg bA); have n8_ := Aside0.mk (neA (g := gb291) hg kA); have n9_ := Aside0.mk (neB (g := gb291) hg kA); have n10_ := Aside0.mk (neA (g := gb298) hg kA); have n11_ := Aside0.mk (neB (g := gb298) hg kA); have n12_ := Aside0.mk (neA (g := gb299) hg kA); have n13_ := Aside0.mk (neB (g := gb299) hg kA); have n14_ := Aside0.mk (neA (g := gb303) hg kA); have n15_ := Aside0.mk (neB (g := gb303) hg kA); clear BK291 BK298 BK299 BK303 HB; have BK291 := n0_; have BK298 := n1_; have BK299 := n2_; have BK303 := n3_; have HB := n4_; have BK308 := n5_; have GW308 := n6_; have GE308 := n7_; have NB291_308 := n8_; have NB308_291 := n9_; have NB298_308 := n10_; have NB308_298 := n11_; have NB299_308 := n12_; have NB308_299 := n13_; have NB303_308 := n14_; have NB308_303 := n15_; clear n0_ n1_ n2_ n3_ n4_ n5_ n6_ n7_ n8_ n9_ n10_ n11_ n12_ n13_ n14_ n15_ hb hbox hg
        refine hK.out _ _ ⟨(blk_cell BK299.out 0).trans rfl, (blk_cell BK299.out 1).trans rfl, (blk_cell BK291.out 0).trans rfl, (blk_cell BK291.out 1).trans rfl, (blk_cell BK291.out 2).trans rfl, (blk_cell BK291.out 3).trans rfl, (blk_cell BK291.out 4).trans rfl, (blk_cell BK291.out 5).trans rfl, (blk_cell BK291.out 6).trans rfl, (blk_cell BK291.out 7).trans rfl⟩ (fun hHeld => ?_)
        clear hK K
        refine norm_ (a' := ?_) ?_ ?_
        rotate_left
        ·show Act.put _ (some 7) _ = _
         simp only [Act.put, List.setIfInBounds_toArray, List.set_cons_zero, List.set_cons_succ, i64_w, i32_w]
         rfl
        exact norm_ (by simp only [putAll, Act.put, List.setIfInBounds_toArray, List.set_cons_zero, List.set_cons_succ]) (hCont (gb308) _ ⟨hHeld, kA, kA, kA, kA, kA, GW308.out, GE308.out, NB291_308.out, NB308_291.out, NB298_308.out, NB308_298.out, NB299_308.out, NB308_299.out, NB303_308.out, NB308_303.out, bA⟩)
       ·skip
        refine box_step ?hg (N := 7) ?hd (cs := #[.int .u64 0, .int .u64 0]) (t := 56) ?hr ?_; (case hd => rfl); (case hg => rfl); (case hr => first | (go_simp; done) | (go_simp; rfl))
        intro gb308 hg w47 hbox hb
        have n0_ := Aside0.mk (blk_below (g := gb291) kA hb); have n1_ := Aside0.mk (blk_below (g := gb298) kA hb); have n2_ := Aside0.mk (blk_below (g := gb299) kA hb); have n3_ := Aside0.mk (blk_below (g := gb303) kA hb); have n4_ := Aside0.mk (below_step bA hb); have n5_ := Aside0.mk (hbox); have n6_ := Aside0.mk (gwA hg bA); have n7_ := Aside0.mk (gwA hg bA); have n8_ := Aside0.mk (neA (g := gb291) hg kA); have n9_ := Aside0.mk (neB (g := gb291) hg kA); have n10_ := Aside0.mk (neA (g := gb298) hg kA); have n11_ := Aside0.mk (neB (g := gb298) hg kA); have n12_ := Aside0.mk (neA (g := gb299) hg kA); have n13_ := Aside0.mk (neB (g := gb299) hg kA); have n14_ := Aside0.mk (neA (g := gb303) hg kA); have n15_ := Aside0.mk (neB (g := gb303) hg kA); clear BK291 BK298 BK299 BK303 HB; have BK291 := n0_; have BK298 := n1_; have BK299 := n2_; have BK303 := n3_; have HB := n4_; have BK308 := n5_; have GW308 := n6_; have GE308 := n7_; have NB291_308 := n8_; have NB308_291 := n9_; have NB298_308 := n10_; have NB308_298 := n11_; have NB299_308 := n12_; have NB308_299 := n13_; have NB303_308 := n14_; have NB308_303 := n15_; clear n0_ n1_ n2_ n3_ n4_ n5_ n6_ n7_ n8_ n9_ n10_ n11_ n12_ n13_ n14_ n15_ hb hbox hg
        refine hK.out _ _ ⟨(blk_cell BK299.out 0).trans rfl, (blk_cell BK299.out 1).trans rfl, (blk_cell BK291.out 0).trans rfl, (blk_cell BK291.out 1).trans rfl, (blk_cell BK291.out 2).trans rfl, (blk_cell BK291.out 3).trans rfl, (blk_cell BK291.out 4).trans rfl, (blk_cell BK291.out 5).trans rfl, (blk_cell BK291.out 6).trans rfl, (blk_cell BK291.out 7).trans rfl⟩ (fun hHeld => ?_)
        clear hK K
        refine norm_ (a' := ?_) ?_ ?_
        rotate_left
        ·show Act.put _ (some 7) _ = _
         simp only [Act.put, List.setIfInBounds_toArray, List.set_cons_zero, List.set_cons_succ, i64_w, i32_w]
         rfl
        refine one_ (i := 16) (N := some 55) #[true, true, true, true, true, true, true, true, true, true, true, true, true, true, true, true, true, false, false, false, true, false, false] rfl rfl (one_of HT_.out (by kernel_rfl)) (by decide) (fun K hK => ?_)
        refine goes_ Try.func28 (by kernel_rfl) rfl #[.agg #[.int .u64 t296, .int .u64 t297], .int .u64 (IntKind.u64.wrap (wrap64 ((wrap64 ((wrap64 (a0_3 * t304)) + a0_4)) + (wrap64 (a0_5 * a0_0)))))] (by rfl) rfl rfl aA ?_
        with_reducible refine (backfillref01_Times.calls t296 t297 (IntKind.u64.wrap (wrap64 ((wrap64 ((wrap64 (a0_3 * t304)) + a0_4)) + (wrap64 (a0_5 * a0_0))))) t305 t306 t307 _ A21.out).mono ?_
        rintro e w48 ⟨rfl, hb⟩
        refine ⟨_, rfl, ?_⟩; have n0_ := Aside0.mk (blk_below (g := gb291) kA hb); have n1_ := Aside0.mk (blk_below (g := gb298) kA hb); have n2_ := Aside0.mk (blk_below (g := gb299) kA hb); have n3_ := Aside0.mk (blk_below (g := gb303) kA hb); have n4_ := Aside0.mk (blk_below (g := gb308) kA hb); have n5_ := Aside0.mk (below_step bA hb); clear BK291 BK298 BK299 BK303 BK308 HB; have BK291 := n0_; have BK298 := n1_; have BK299 := n2_; have BK303 := n3_; have BK308 := n4_; have HB := n5_; clear n0_ n1_ n2_ n3_ n4_ n5_; (try clear hb)
        refine hK.out _ _ ⟨(blk_cell BK299.out 0).trans rfl, (blk_cell BK299.out 1).trans rfl, (blk_cell BK291.out 0).trans rfl, (blk_cell BK291.out 1).trans rfl, (blk_cell BK291.out 2).trans rfl, (blk_cell BK291.out 3).trans rfl, (blk_cell BK291.out 4).trans rfl, (blk_cell BK291.out 5).trans rfl, (blk_cell BK291.out 6).trans rfl, (blk_cell BK291.out 7).trans rfl⟩ (fun hHeld => ?_)
        clear hK K
        refine norm_ (a' := ?_) ?_ ?_
        rotate_left
        ·show Act.put _ (some 55) _ = _
         simp only [Act.put, List.setIfInBounds_toArray, List.set_cons_zero, List.set_cons_succ, i64_w, i32_w]
         rfl
        refine pure_ (i := 17) (N := some 38) (v := ?_) (a' := ?_) #[true, true, true, true, true, true, true, true, true, true, true, true, true, true, true, true, true, true, false, false, true, false, false] rfl rfl (any_of HT_.out (by kernel_rfl)) (fun _ _ _ h => h) (Or.inl ⟨by rfl, ?_⟩) ?_ ?_
        rotate_left
        ·intro w'
         go_simp; with_reducible rfl
        rotate_left
        ·simp only [Act.put, List.setIfInBounds_toArray, List.set_cons_zero, List.set_cons_succ, i64_w, i32_w]
         rfl
        refine pure_ (i := 18) (N := some 56) (v := ?_) (a' := ?_) #[true, true, true, true, true, true, true, true, true, true, true, true, true, true, true, true, true, true, true, false, true, false, false] rfl rfl (any_of HT_.out (by kernel_rfl)) (fun _ _ _ h => h) (Or.inl ⟨by rfl, ?_⟩) ?_ ?_
        rotate_left
        ·intro w'
         go_simp; with_reducible rfl
        rotate_left
        ·simp only [Act.put, List.setIfInBounds_toArray, List.set_cons_zero, List.set_cons_succ, i64_w, i32_w]
         rfl
        refine pure_ (i := 19) (N := some 57) (v := ?_) (a' := ?_) #[true, true, true, true, true, true, true, true, true, true, true, true, true, true, true, true, true, true, true, true, true, false, false] rfl rfl (any_of HT_.out (by kernel_rfl)) (fun _ _ _ h => h) (Or.inl ⟨by rfl, ?_⟩) ?_ ?_
        rotate_left
        ·intro w'
         go_simp; with_reducible rfl
        rotate_left
        ·simp only [Act.put, List.setIfInBounds_toArray, List.set_cons_zero, List.set_cons_succ, i64_w, i32_w]
         rfl
        exact norm_ (by simp only [putAll, Act.put, List.setIfInBounds_toArray, List.set_cons_zero, List.set_cons_succ]) (hCont (gb308) _ ⟨hHeld, kA, kA, kA, kA, kA, GW308.out, GE308.out, NB291_308.out, NB308_291.out, NB298_308.out, NB308_298.out, NB299_308.out, NB308_299.out, NB303_308.out, NB308_303.out, bA⟩)
      ·skip
       refine box_step ?hg (N := 7) ?hd (cs := #[.int .u64 0, .int .u64 0]) (t := 56) ?hr ?_; (case hd => rfl); (case hg => rfl); (case hr => first | (go_simp; done) | (go_simp; rfl))
       intro gb308 hg w46 hbox hb
       have n0_ := Aside0.mk (blk_below (g := gb291) kA hb); have n1_ := Aside0.mk (blk_below (g := gb298) kA hb); have n2_ := Aside0.mk (blk_below (g := gb299) kA hb); have n3_ := Aside0.mk (blk_below (g := gb303) kA hb); have n4_ := Aside0.mk (below_step bA hb); have n5_ := Aside0.mk (hbox); have n6_ := Aside0.mk (gwA hg bA); have n7_ := Aside0.mk (gwA hg bA); have n8_ := Aside0.mk (neA (g := gb291) hg kA); have n9_ := Aside0.mk (neB (g := gb291) hg kA); have n10_ := Aside0.mk (neA (g := gb298) hg kA); have n11_ := Aside0.mk (neB (g := gb298) hg kA); have n12_ := Aside0.mk (neA (g := gb299) hg kA); have n13_ := Aside0.mk (neB (g := gb299) hg kA); have n14_ := Aside0.mk (neA (g := gb303) hg kA); have n15_ := Aside0.mk (neB (g := gb303) hg kA); clear BK291 BK298 BK299 BK303 HB; have BK291 := n0_; have BK298 := n1_; have BK299 := n2_; have BK303 := n3_; have HB := n4_; have BK308 := n5_; have GW308 := n6_; have GE308 := n7_; have NB291_308 := n8_; have NB308_291 := n9_; have NB298_308 := n10_; have NB308_298 := n11_; have NB299_308 := n12_; have NB308_299 := n13_; have NB303_308 := n14_; have NB308_303 := n15_; clear n0_ n1_ n2_ n3_ n4_ n5_ n6_ n7_ n8_ n9_ n10_ n11_ n12_ n13_ n14_ n15_ hb hbox hg
       refine hK.out _ _ ⟨(blk_cell BK299.out 0).trans rfl, (blk_cell BK299.out 1).trans rfl, (blk_cell BK291.out 0).trans rfl, (blk_cell BK291.out 1).trans rfl, (blk_cell BK291.out 2).trans rfl, (blk_cell BK291.out 3).trans rfl, (blk_cell BK291.out 4).trans rfl, (blk_cell BK291.out 5).trans rfl, (blk_cell BK291.out 6).trans rfl, (blk_cell BK291.out 7).trans rfl⟩ (fun hHeld => ?_)
       clear hK K
       refine norm_ (a' := ?_) ?_ ?_
       rotate_left
       ·show Act.put _ (some 7) _ = _
        simp only [Act.put, List.setIfInBounds_toArray, List.set_cons_zero, List.set_cons_succ, i64_w, i32_w]
        rfl
       refine one_ (i := 4) (N := some 43) #[true, true, true, true, true, false, true, true, false, true, true, true, true, true, false, false, false, false, false, false, true, false, false] rfl rfl (one_of HT_.out (by kernel_rfl)) (by decide) (fun K hK => ?_)
       refine goes_ Try.func29 (by kernel_rfl) rfl #[.agg #[.int .i64 a0_0, .int .i64 a0_1, .int .i64 a0_2, .int .i64 a0_3, .int .i64 a0_4, .int .i64 a0_5, .int .i64 a0_6, .int .i64 a0_7]] (by rfl) rfl rfl aA ?_
       with_reducible refine (backfillref11_bound.calls a0_0 a0_1 a0_2 a0_3 a0_4 a0_5 a0_6 a0_7 t304 _ A20.out).mono ?_
       rintro e w47 ⟨rfl, hb⟩
       refine ⟨_, rfl, ?_⟩; have n0_ := Aside0.mk (blk_below (g := gb291) kA hb); have n1_ := Aside0.mk (blk_below (g := gb298) kA hb); have n2_ := Aside0.mk (blk_below (g := gb299) kA hb); have n3_ := Aside0.mk (blk_below (g := gb303) kA hb); have n4_ := Aside0.mk (blk_below (g := gb308) kA hb); have n5_ := Aside0.mk (below_step bA hb); clear BK291 BK298 BK299 BK303 BK308 HB; have BK291 := n0_; have BK298 := n1_; have BK299 := n2_; have BK303 := n3_; have BK308 := n4_; have HB := n5_; clear n0_ n1_ n2_ n3_ n4_ n5_; (try clear hb)
       refine hK.out _ _ ⟨(blk_cell BK299.out 0).trans rfl, (blk_cell BK299.out 1).trans rfl, (blk_cell BK291.out 0).trans rfl, (blk_cell BK291.out 1).trans rfl, (blk_cell BK291.out 2).trans rfl, (blk_cell BK291.out 3).trans rfl, (blk_cell BK291.out 4).trans rfl, (blk_cell BK291.out 5).trans rfl, (blk_cell BK291.out 6).trans rfl, (blk_cell BK291.out 7).trans rfl⟩ (fun hHeld => ?_)
       clear hK K
       refine norm_ (a' := ?_) ?_ ?_
       rotate_left
       ·show Act.put _ (some 43) _ = _
        simp only [Act.put, List.setIfInBounds_toArray, List.set_cons_zero, List.set_cons_succ, i64_w, i32_w]
        rfl
       refine pure_ (i := 5) (N := some 44) (v := ?_) (a' := ?_) #[true, true, true, true, true, true, true, true, false, true, true, true, true, true, false, false, false, false, false, false, true, false, false] rfl rfl (any_of HT_.out (by kernel_rfl)) (fun _ _ _ h => h) (Or.inl ⟨by rfl, ?_⟩) ?_ ?_
       rotate_left
       ·intro w'
        go_simp; with_reducible rfl
       rotate_left
       ·simp only [Act.put, List.setIfInBounds_toArray, List.set_cons_zero, List.set_cons_succ, i64_w, i32_w]
        rfl
       refine pure_ (i := 8) (N := some 47) (v := ?_) (a' := ?_) #[true, true, true, true, true, true, true, true, true, true, true, true, true, true, false, false, false, false, false, false, true, false, false] rfl rfl (any_of HT_.out (by kernel_rfl)) (fun _ _ _ h => h) (Or.inl ⟨by rfl, ?_⟩) ?_ ?_
       rotate_left
       ·intro w'
        go_simp; with_reducible rfl
       rotate_left
       ·simp only [Act.put, List.setIfInBounds_toArray, List.set_cons_zero, List.set_cons_succ, i64_w, i32_w]
        rfl
       refine pure_ (i := 14) (N := some 53) (v := ?_) (a' := ?_) #[true, true, true, true, true, true, true, true, true, true, true, true, true, true, true, false, false, false, false, false, true, false, false] rfl rfl (any_of HT_.out (by kernel_rfl)) (fun _ _ _ h => h) (Or.inl ⟨by rfl, ?_⟩) ?_ ?_
       rotate_left
       ·intro w'
        go_simp; with_reducible rfl
       rotate_left
       ·simp only [Act.put, List.setIfInBounds_toArray, List.set_cons_zero, List.set_cons_succ, i64_w, i32_w]
        rfl
       refine pure_ (i := 15) (N := some 54) (v := ?_) (a' := ?_) #[true, true, true, true, true, true, true, true, true, true, true, true, true, true, true, true, false, false, false, false, true, false, false] rfl rfl (any_of HT_.out (by kernel_rfl)) (fun _ _ _ h => h) (Or.inl ⟨by rfl, ?_⟩) ?_ ?_
       rotate_left
       ·intro w'
        go_simp; with_reducible rfl
       rotate_left
       ·simp only [Act.put, List.setIfInBounds_toArray, List.set_cons_zero, List.set_cons_succ, i64_w, i32_w]
        rfl
       refine one_ (i := 16) (N := some 55) #[true, true, true, true, true, true, true, true, true, true, true, true, true, true, true, true, true, false, false, false, true, false, false] rfl rfl (one_of HT_.out (by kernel_rfl)) (by decide) (fun K hK => ?_)
       refine goes_ Try.func28 (by kernel_rfl) rfl #[.agg #[.int .u64 t296, .int .u64 t297], .int .u64 (IntKind.u64.wrap (wrap64 ((wrap64 ((wrap64 (a0_3 * t304)) + a0_4)) + (wrap64 (a0_5 * a0_0)))))] (by rfl) rfl rfl aA ?_
       with_reducible refine (backfillref01_Times.calls t296 t297 (IntKind.u64.wrap (wrap64 ((wrap64 ((wrap64 (a0_3 * t304)) + a0_4)) + (wrap64 (a0_5 * a0_0))))) t305 t306 t307 _ A21.out).mono ?_
       rintro e w48 ⟨rfl, hb⟩
       refine ⟨_, rfl, ?_⟩; have n0_ := Aside0.mk (blk_below (g := gb291) kA hb); have n1_ := Aside0.mk (blk_below (g := gb298) kA hb); have n2_ := Aside0.mk (blk_below (g := gb299) kA hb); have n3_ := Aside0.mk (blk_below (g := gb303) kA hb); have n4_ := Aside0.mk (blk_below (g := gb308) kA hb); have n5_ := Aside0.mk (below_step bA hb); clear BK291 BK298 BK299 BK303 BK308 HB; have BK291 := n0_; have BK298 := n1_; have BK299 := n2_; have BK303 := n3_; have BK308 := n4_; have HB := n5_; clear n0_ n1_ n2_ n3_ n4_ n5_; (try clear hb)
       refine hK.out _ _ ⟨(blk_cell BK299.out 0).trans rfl, (blk_cell BK299.out 1).trans rfl, (blk_cell BK291.out 0).trans rfl, (blk_cell BK291.out 1).trans rfl, (blk_cell BK291.out 2).trans rfl, (blk_cell BK291.out 3).trans rfl, (blk_cell BK291.out 4).trans rfl, (blk_cell BK291.out 5).trans rfl, (blk_cell BK291.out 6).trans rfl, (blk_cell BK291.out 7).trans rfl⟩ (fun hHeld => ?_)
       clear hK K
       refine norm_ (a' := ?_) ?_ ?_
       rotate_left
       ·show Act.put _ (some 55) _ = _
        simp only [Act.put, List.setIfInBounds_toArray, List.set_cons_zero, List.set_cons_succ, i64_w, i32_w]
        rfl
       refine pure_ (i := 17) (N := some 38) (v := ?_) (a' := ?_) #[true, true, true, true, true, true, true, true, true, true, true, true, true, true, true, true, true, true, false, false, true, false, false] rfl rfl (any_of HT_.out (by kernel_rfl)) (fun _ _ _ h => h) (Or.inl ⟨by rfl, ?_⟩) ?_ ?_
       rotate_left
       ·intro w'
        go_simp; with_reducible rfl
       rotate_left
       ·simp only [Act.put, List.setIfInBounds_toArray, List.set_cons_zero, List.set_cons_succ, i64_w, i32_w]
        rfl
       refine pure_ (i := 18) (N := some 56) (v := ?_) (a' := ?_) #[true, true, true, true, true, true, true, true, true, true, true, true, true, true, true, true, true, true, true, false, true, false, false] rfl rfl (any_of HT_.out (by kernel_rfl)) (fun _ _ _ h => h) (Or.inl ⟨by rfl, ?_⟩) ?_ ?_
       rotate_left
       ·intro w'
        go_simp; with_reducible rfl
       rotate_left
       ·simp only [Act.put, List.setIfInBounds_toArray, List.set_cons_zero, List.set_cons_succ, i64_w, i32_w]
        rfl
       refine pure_ (i := 19) (N := some 57) (v := ?_) (a' := ?_) #[true, true, true, true, true, true, true, true, true, true, true, true, true, true, true, true, true, true, true, true, true, false, false] rfl rfl (any_of HT_.out (by kernel_rfl)) (fun _ _ _ h => h) (Or.inl ⟨by rfl, ?_⟩) ?_ ?_
       rotate_left
       ·intro w'
        go_simp; with_reducible rfl
       rotate_left
       ·simp only [Act.put, List.setIfInBounds_toArray, List.set_cons_zero, List.set_cons_succ, i64_w, i32_w]
        rfl
       exact norm_ (by simp only [putAll, Act.put, List.setIfInBounds_toArray, List.set_cons_zero, List.set_cons_succ]) (hCont (gb308) _ ⟨hHeld, kA, kA, kA, kA, kA, GW308.out, GE308.out, NB291_308.out, NB308_291.out, NB298_308.out, NB308_298.out, NB299_308.out, NB308_299.out, NB303_308.out, NB308_303.out, bA⟩)
     rintro gb308 w49 ⟨hS_, h0_, h1_, h2_, h3_, h4_, h5_, h6_, h7_, h8_, h9_, h10_, h11_, h12_, h13_, h14_, h15_⟩
     have n0_ : Aside0 (w49.heap[gb291]? = some (.cells #[.int .i64 a0_0, .int .i64 a0_1, .int .i64 a0_2, .int .i64 a0_3, .int .i64 a0_4, .int .i64 a0_5, .int .i64 a0_6, .int .i64 a0_7] 31 (0, 0))) := ⟨h0_⟩
     have n1_ : Aside0 (w49.heap[gb298]? = some (.cells #[.int .u64 t294, .int .u64 t295] 56 (0, 0))) := ⟨h1_⟩
     have n2_ : Aside0 (w49.heap[gb299]? = some (.cells #[.int .u64 t296, .int .u64 t297] 56 (0, 0))) := ⟨h2_⟩
     have n3_ : Aside0 (w49.heap[gb303]? = some (.cells #[.int .u64 t300, .int .u64 t301] 56 (0, 0))) := ⟨h3_⟩
     have n4_ : Aside0 (w49.heap[gb308]? = some (.cells #[.int .u64 0, .int .u64 0] 56 (0, 0))) := ⟨h4_⟩
     have n5_ : Aside0 (w.heap.size ≤ gb308) := ⟨h5_⟩
     have n6_ : Aside0 (w.heap.size ≤ gb308) := ⟨h6_⟩
     have n7_ : Aside0 (gb291 ≠ gb308) := ⟨h7_⟩
     have n8_ : Aside0 (gb308 ≠ gb291) := ⟨h8_⟩
     have n9_ : Aside0 (gb298 ≠ gb308) := ⟨h9_⟩
     have n10_ : Aside0 (gb308 ≠ gb298) := ⟨h10_⟩
     have n11_ : Aside0 (gb299 ≠ gb308) := ⟨h11_⟩
     have n12_ : Aside0 (gb308 ≠ gb299) := ⟨h12_⟩
     have n13_ : Aside0 (gb303 ≠ gb308) := ⟨h13_⟩
     have n14_ : Aside0 (gb308 ≠ gb303) := ⟨h14_⟩
     have n15_ : Aside0 (Below w.heap.size w w49) := ⟨h15_⟩
     clear BK291 BK298 BK299 BK303 HB h0_ h1_ h2_ h3_ h4_ h5_ h6_ h7_ h8_ h9_ h10_ h11_ h12_ h13_ h14_ h15_; have BK291 := n0_; have BK298 := n1_; have BK299 := n2_; have BK303 := n3_; have BK308 := n4_; have GW308 := n5_; have GE308 := n6_; have NB291_308 := n7_; have NB308_291 := n8_; have NB298_308 := n9_; have NB308_298 := n10_; have NB299_308 := n11_; have NB308_299 := n12_; have NB303_308 := n13_; have NB308_303 := n14_; have HB := n15_; clear n0_ n1_ n2_ n3_ n4_ n5_ n6_ n7_ n8_ n9_ n10_ n11_ n12_ n13_ n14_ n15_
     have hHeld : w49.cell? ⟨gb299, 0, none⟩ = some (.int .u64 t296) ∧ w49.cell? ⟨gb299, 1, none⟩ = some (.int .u64 t297) ∧ w49.cell? ⟨gb291, 0, none⟩ = some (.int .i64 a0_0) ∧ w49.cell? ⟨gb291, 1, none⟩ = some (.int .i64 a0_1) ∧ w49.cell? ⟨gb291, 2, none⟩ = some (.int .i64 a0_2) ∧ w49.cell? ⟨gb291, 3, none⟩ = some (.int .i64 a0_3) ∧ w49.cell? ⟨gb291, 4, none⟩ = some (.int .i64 a0_4) ∧ w49.cell? ⟨gb291, 5, none⟩ = some (.int .i64 a0_5) ∧ w49.cell? ⟨gb291, 6, none⟩ = some (.int .i64 a0_6) ∧ w49.cell? ⟨gb291, 7, none⟩ = some (.int .i64 a0_7) := hS_
     refine norm_ (a' := ?_) ?_ ?_
     rotate_left
     ·simp only [putAll, Act.put, List.setIfInBounds_toArray, List.set_cons_zero, List.set_cons_succ]
      rfl
     refine one_ (i := 21) (N := none) #[true, true, true, true, true, true, true, true, true, true, true, true, true, true, true, true, true, true, true, true, true, true, false] rfl rfl (one_of HT_.out (by kernel_rfl)) (by decide) (fun K hK => ?_)
     have hs50 : w49.cell? ⟨gb308, 0, none⟩ = some (.int .u64 0) := (blk_cell BK308.out 0).trans rfl
     have hfs50 := blk_frozen BK308.out 0
     have hns50_0 := NB291_308.out
     have hns50_1 := NB298_308.out
     have hns50_2 := NB299_308.out
     have hns50_3 := NB303_308.out
     have hms50_0 := NB308_291.out
     have hms50_1 := NB308_298.out
     have hms50_2 := NB308_299.out
     have hms50_3 := NB308_303.out
     have hs51 : w49.cell? ⟨gb308, 1, none⟩ = some (.int .u64 0) := (blk_cell BK308.out 1).trans rfl
     have hfs51 := blk_frozen BK308.out 1
     have hns51_0 := NB291_308.out
     have hns51_1 := NB298_308.out
     have hns51_2 := NB299_308.out
     have hns51_3 := NB303_308.out
     have hms51_0 := NB308_291.out
     have hms51_1 := NB308_298.out
     have hms51_2 := NB308_299.out
     have hms51_3 := NB308_303.out
     refine skip_ (w1 := ?_) (by rfl) rfl ?_ ?_
     rotate_left
     ·go_simp
      rfl
     refine hK.out _ _ ⟨((cell_far (p := ⟨gb308, _, none⟩) NB299_308.out _).trans (((cell_far (p := ⟨gb308, _, none⟩) NB299_308.out _).trans (hHeld.1)))), ((cell_far (p := ⟨gb308, _, none⟩) NB299_308.out _).trans (((cell_far (p := ⟨gb308, _, none⟩) NB299_308.out _).trans (hHeld.2.1)))), ((cell_far (p := ⟨gb308, _, none⟩) NB291_308.out _).trans (((cell_far (p := ⟨gb308, _, none⟩) NB291_308.out _).trans (hHeld.2.2.1)))), ((cell_far (p := ⟨gb308, _, none⟩) NB291_308.out _).trans (((cell_far (p := ⟨gb308, _, none⟩) NB291_308.out _).trans (hHeld.2.2.2.1)))), ((cell_far (p := ⟨gb308, _, none⟩) NB291_308.out _).trans (((cell_far (p := ⟨gb308, _, none⟩) NB291_308.out _).trans (hHeld.2.2.2.2.1)))), ((cell_far (p := ⟨gb308, _, none⟩) NB291_308.out _).trans (((cell_far (p := ⟨gb308, _, none⟩) NB291_308.out _).trans (hHeld.2.2.2.2.2.1)))), ((cell_far (p := ⟨gb308, _, none⟩) NB291_308.out _).trans (((cell_far (p := ⟨gb308, _, none⟩) NB291_308.out _).trans (hHeld.2.2.2.2.2.2.1)))), ((cell_far (p := ⟨gb308, _, none⟩) NB291_308.out _).trans (((cell_far (p := ⟨gb308, _, none⟩) NB291_308.out _).trans (hHeld.2.2.2.2.2.2.2.1)))), ((cell_far (p := ⟨gb308, _, none⟩) NB291_308.out _).trans (((cell_far (p := ⟨gb308, _, none⟩) NB291_308.out _).trans (hHeld.2.2.2.2.2.2.2.2.1)))), ((cell_far (p := ⟨gb308, _, none⟩) NB291_308.out _).trans (((cell_far (p := ⟨gb308, _, none⟩) NB291_308.out _).trans (hHeld.2.2.2.2.2.2.2.2.2))))⟩ (fun hHeld => ?_)
     clear hK K
     refine pure_ (i := 22) (N := some 8) (v := ?_) (a' := ?_) #[true, true, true, true, true, true, true, true, true, true, true, true, true, true, true, true, true, true, true, true, true, true, true] rfl rfl (any_of HT_.out (by kernel_rfl)) (fun _ _ _ h => h) (Or.inl ⟨by rfl, ?_⟩) ?_ ?_
     rotate_left
     ·intro w'
      go_simp; with_reducible rfl
     rotate_left
     ·simp only [Act.put, List.setIfInBounds_toArray, List.set_cons_zero, List.set_cons_succ, i64_w, i32_w]
      rfl
     refine done_ (done_of HT_.out (by kernel_rfl)) ?_
     have hnb52 := NB303_308.out
     have hnc52 := NB308_303.out
     have hcz53_0 : w49.cell? ⟨gb303, 0, none⟩ = some (.int .u64 t300) := (blk_cell BK303.out 0).trans rfl
     have hcz53_1 : w49.cell? ⟨gb303, 1, none⟩ = some (.int .u64 t301) := (blk_cell BK303.out 1).trans rfl
     have hfz53_0 := blk_frozen BK303.out 0
     have hfz53_1 := blk_frozen BK303.out 1
     have hnb54 := NB308_291.out
     have hnc54 := NB291_308.out
     have hnb55 := NB308_298.out
     have hnc55 := NB298_308.out
     have hnb56 := NB308_299.out
     have hnc56 := NB299_308.out
     have hcz57_0 : w49.cell? ⟨gb308, 0, none⟩ = some (.int .u64 0) := (blk_cell BK308.out 0).trans rfl
     have hcz57_1 : w49.cell? ⟨gb308, 1, none⟩ = some (.int .u64 0) := (blk_cell BK308.out 1).trans rfl
     have hfz57_0 := blk_frozen BK308.out 0
     have hfz57_1 := blk_frozen BK308.out 1
     try go_wp2_with (first | ((with_reducible refine gate_callee (f := 30) rfl ?_); refine goesL_ (some 60) rfl rfl Try.func30 (by kernel_rfl) rfl #[.agg #[.int .u64 t300, .int .u64 t301], .agg #[.int .u64 t305, .int .u64 t306]] rfl aA ?_; (with_reducible refine (backfillref01_Cmp.calls k t300 t301 t305 t306 t309 _ A22.out).mono ?_); rintro e w58 ⟨rfl, hb⟩; refine ⟨_, rfl, ?_⟩; have n0_ := Aside0.mk (blk_below (g := gb291) (o := .cells #[.int .i64 a0_0, .int .i64 a0_1, .int .i64 a0_2, .int .i64 a0_3, .int .i64 a0_4, .int .i64 a0_5, .int .i64 a0_6, .int .i64 a0_7] 31 (0, 0)) (by (with_reducible repeat (first | refine blk_drewN ?_ _ | refine blk_drew ?_ | refine blk_alloc ?_ _)); refine blk_far ?_ NB291_308.out _; (with_reducible repeat (first | refine blk_drewN ?_ _ | refine blk_drew ?_ | refine blk_alloc ?_ _)); refine blk_far ?_ NB291_308.out _; exact kA) hb); have n1_ := Aside0.mk (blk_below (g := gb298) (o := .cells #[.int .u64 t294, .int .u64 t295] 56 (0, 0)) (by (with_reducible repeat (first | refine blk_drewN ?_ _ | refine blk_drew ?_ | refine blk_alloc ?_ _)); refine blk_far ?_ NB298_308.out _; (with_reducible repeat (first | refine blk_drewN ?_ _ | refine blk_drew ?_ | refine blk_alloc ?_ _)); refine blk_far ?_ NB298_308.out _; exact kA) hb); have n2_ := Aside0.mk (blk_below (g := gb299) (o := .cells #[.int .u64 t296, .int .u64 t297] 56 (0, 0)) (by (with_reducible repeat (first | refine blk_drewN ?_ _ | refine blk_drew ?_ | refine blk_alloc ?_ _)); refine blk_far ?_ NB299_308.out _; (with_reducible repeat (first | refine blk_drewN ?_ _ | refine blk_drew ?_ | refine blk_alloc ?_ _)); refine blk_far ?_ NB299_308.out _; exact kA) hb); have n3_ := Aside0.mk (blk_below (g := gb303) (o := .cells #[.int .u64 t300, .int .u64 t301] 56 (0, 0)) (by (with_reducible repeat (first | refine blk_drewN ?_ _ | refine blk_drew ?_ | refine blk_alloc ?_ _)); refine blk_far ?_ NB303_308.out _; (with_reducible repeat (first | refine blk_drewN ?_ _ | refine blk_drew ?_ | refine blk_alloc ?_ _)); refine blk_far ?_ NB303_308.out _; exact kA) hb); have n4_ := Aside0.mk (blk_below (g := gb308) (o := .cells #[.int .u64 t305, .int .u64 t306] 56 (0, 0)) (by (with_reducible repeat (first | refine blk_drewN ?_ _ | refine blk_drew ?_ | refine blk_alloc ?_ _)); refine blk_put (cs := #[.int .u64 t305, .int .u64 0]) ?_ 1 _ rfl; (with_reducible repeat (first | refine blk_drewN ?_ _ | refine blk_drew ?_ | refine blk_alloc ?_ _)); refine blk_put (cs := #[.int .u64 0, .int .u64 0]) ?_ 0 _ rfl; exact kA) hb); have n5_ := Aside0.mk (below_step bA hb); clear BK291 BK298 BK299 BK303 BK308 HB; have BK291 := n0_; have BK298 := n1_; have BK299 := n2_; have BK303 := n3_; have BK308 := n4_; have HB := n5_; clear n0_ n1_ n2_ n3_ n4_ n5_; (try clear hb)))
     go_ret
     exact ⟨by first | rfl | (simp [errW_none, errW_some] <;> rfl) | (simp [*, errW_none, errW_some] <;> rfl), bA⟩
    ·rw [if_neg c23] at H
     have c23b0 : decide (0 < t309) = false := decide_eq_false c23
     clear c23
     obtain rfl := Option.some.inj H
     go_enter Try.func14, Try.ntmps14
     try go_wp2_with (first | ((with_reducible refine gate_dst (N := 1) rfl ?_); refine bxA 1 #[.int .i64 a0_0, .int .i64 a0_1, .int .i64 a0_2, .int .i64 a0_3, .int .i64 a0_4, .int .i64 a0_5, .int .i64 a0_6, .int .i64 a0_7] 31 ?_; intro gb291 hg w59 hbox hb; have n0_ := Aside0.mk (below_step bA hb); have n1_ := Aside0.mk (hbox); have n2_ := Aside0.mk (gwA hg bA); have n3_ := Aside0.mk (gwA hg bA); clear HB; have HB := n0_; have BK291 := n1_; have GW291 := n2_; have GE291 := n3_; clear n0_ n1_ n2_ n3_ hb hbox hg; have hcz60_0 : w59.cell? ⟨gb291, 0, none⟩ = some (.int .i64 a0_0) := (blk_cell BK291.out 0).trans rfl; have hcz60_1 : w59.cell? ⟨gb291, 1, none⟩ = some (.int .i64 a0_1) := (blk_cell BK291.out 1).trans rfl; have hcz60_2 : w59.cell? ⟨gb291, 2, none⟩ = some (.int .i64 a0_2) := (blk_cell BK291.out 2).trans rfl; have hcz60_3 : w59.cell? ⟨gb291, 3, none⟩ = some (.int .i64 a0_3) := (blk_cell BK291.out 3).trans rfl; have hcz60_4 : w59.cell? ⟨gb291, 4, none⟩ = some (.int .i64 a0_4) := (blk_cell BK291.out 4).trans rfl; have hcz60_5 : w59.cell? ⟨gb291, 5, none⟩ = some (.int .i64 a0_5) := (blk_cell BK291.out 5).trans rfl; have hcz60_6 : w59.cell? ⟨gb291, 6, none⟩ = some (.int .i64 a0_6) := (blk_cell BK291.out 6).trans rfl; have hcz60_7 : w59.cell? ⟨gb291, 7, none⟩ = some (.int .i64 a0_7) := (blk_cell BK291.out 7).trans rfl; have hfz60_0 := blk_frozen BK291.out 0; have hfz60_1 := blk_frozen BK291.out 1; have hfz60_2 := blk_frozen BK291.out 2; have hfz60_3 := blk_frozen BK291.out 3; have hfz60_4 := blk_frozen BK291.out 4; have hfz60_5 := blk_frozen BK291.out 5; have hfz60_6 := blk_frozen BK291.out 6; have hfz60_7 := blk_frozen BK291.out 7) | ((with_reducible refine gate_callee (f := 25) rfl ?_); refine goesL_ (some 10) rfl rfl Try.func25 (by kernel_rfl) rfl #[.agg #[.int .i64 a0_0, .int .i64 a0_1, .int .i64 a0_2, .int .i64 a0_3, .int .i64 a0_4, .int .i64 a0_5, .int .i64 a0_6, .int .i64 a0_7]] rfl aA ?_; (with_reducible refine (backfillref11_ranges.calls k a0_0 a0_1 a0_2 a0_3 a0_4 a0_5 a0_6 a0_7 true _ A2.out).mono ?_); rintro e w61 ⟨rfl, hb⟩; refine ⟨_, rfl, ?_⟩; have n0_ := Aside0.mk (blk_below (g := gb291) kA hb); have n1_ := Aside0.mk (below_step bA hb); clear BK291 HB; have BK291 := n0_; have HB := n1_; clear n0_ n1_; (try clear hb); have hcz62_0 : w61.cell? ⟨gb291, 0, none⟩ = some (.int .i64 a0_0) := (blk_cell BK291.out 0).trans rfl; have hcz62_1 : w61.cell? ⟨gb291, 1, none⟩ = some (.int .i64 a0_1) := (blk_cell BK291.out 1).trans rfl; have hcz62_2 : w61.cell? ⟨gb291, 2, none⟩ = some (.int .i64 a0_2) := (blk_cell BK291.out 2).trans rfl; have hcz62_3 : w61.cell? ⟨gb291, 3, none⟩ = some (.int .i64 a0_3) := (blk_cell BK291.out 3).trans rfl; have hcz62_4 : w61.cell? ⟨gb291, 4, none⟩ = some (.int .i64 a0_4) := (blk_cell BK291.out 4).trans rfl; have hcz62_5 : w61.cell? ⟨gb291, 5, none⟩ = some (.int .i64 a0_5) := (blk_cell BK291.out 5).trans rfl; have hcz62_6 : w61.cell? ⟨gb291, 6, none⟩ = some (.int .i64 a0_6) := (blk_cell BK291.out 6).trans rfl; have hcz62_7 : w61.cell? ⟨gb291, 7, none⟩ = some (.int .i64 a0_7) := (blk_cell BK291.out 7).trans rfl; have hfz62_0 := blk_frozen BK291.out 0; have hfz62_1 := blk_frozen BK291.out 1; have hfz62_2 := blk_frozen BK291.out 2; have hfz62_3 := blk_frozen BK291.out 3; have hfz62_4 := blk_frozen BK291.out 4; have hfz62_5 := blk_frozen BK291.out 5; have hfz62_6 := blk_frozen BK291.out 6; have hfz62_7 := blk_frozen BK291.out 7) | ((with_reducible refine gate_callee (f := 26) rfl ?_); refine goesL_ (some 13) rfl rfl Try.func26 (by kernel_rfl) rfl #[.agg #[.int .i64 a0_0, .int .i64 a0_1, .int .i64 a0_2, .int .i64 a0_3, .int .i64 a0_4, .int .i64 a0_5, .int .i64 a0_6, .int .i64 a0_7]] rfl aA ?_; (with_reducible refine (backfillref11_M.calls a0_0 a0_1 a0_2 a0_3 a0_4 a0_5 a0_6 a0_7 t293 _ A4.out).mono ?_); rintro e w63 ⟨rfl, hb⟩; refine ⟨_, rfl, ?_⟩; have n0_ := Aside0.mk (blk_below (g := gb291) kA hb); have n1_ := Aside0.mk (below_step bA hb); clear BK291 HB; have BK291 := n0_; have HB := n1_; clear n0_ n1_; (try clear hb); have hcz64_0 : w63.cell? ⟨gb291, 0, none⟩ = some (.int .i64 a0_0) := (blk_cell BK291.out 0).trans rfl; have hcz64_1 : w63.cell? ⟨gb291, 1, none⟩ = some (.int .i64 a0_1) := (blk_cell BK291.out 1).trans rfl; have hcz64_2 : w63.cell? ⟨gb291, 2, none⟩ = some (.int .i64 a0_2) := (blk_cell BK291.out 2).trans rfl; have hcz64_3 : w63.cell? ⟨gb291, 3, none⟩ = some (.int .i64 a0_3) := (blk_cell BK291.out 3).trans rfl; have hcz64_4 : w63.cell? ⟨gb291, 4, none⟩ = some (.int .i64 a0_4) := (blk_cell BK291.out 4).trans rfl; have hcz64_5 : w63.cell? ⟨gb291, 5, none⟩ = some (.int .i64 a0_5) := (blk_cell BK291.out 5).trans rfl; have hcz64_6 : w63.cell? ⟨gb291, 6, none⟩ = some (.int .i64 a0_6) := (blk_cell BK291.out 6).trans rfl; have hcz64_7 : w63.cell? ⟨gb291, 7, none⟩ = some (.int .i64 a0_7) := (blk_cell BK291.out 7).trans rfl; have hfz64_0 := blk_frozen BK291.out 0; have hfz64_1 := blk_frozen BK291.out 1; have hfz64_2 := blk_frozen BK291.out 2; have hfz64_3 := blk_frozen BK291.out 3; have hfz64_4 := blk_frozen BK291.out 4; have hfz64_5 := blk_frozen BK291.out 5; have hfz64_6 := blk_frozen BK291.out 6; have hfz64_7 := blk_frozen BK291.out 7) | ((with_reducible refine gate_callee (f := 27) rfl ?_); refine goesL_ (some 30) rfl rfl Try.func27 (by kernel_rfl) rfl #[.agg #[.int .i64 a0_0, .int .i64 a0_1, .int .i64 a0_2, .int .i64 a0_3, .int .i64 a0_4, .int .i64 a0_5, .int .i64 a0_6, .int .i64 a0_7]] rfl aA ?_; (with_reducible refine (backfillref11_off.calls a0_0 a0_1 a0_2 a0_3 a0_4 a0_5 a0_6 a0_7 t294 t295 t296 t297 _ A18.out).mono ?_); rintro e w65 ⟨rfl, hb⟩; refine ⟨_, rfl, ?_⟩; have n0_ := Aside0.mk (blk_below (g := gb291) kA hb); have n1_ := Aside0.mk (below_step bA hb); clear BK291 HB; have BK291 := n0_; have HB := n1_; clear n0_ n1_; (try clear hb)) | ((with_reducible refine gate_dst (N := 3) rfl ?_); refine bxA 3 #[.int .u64 0, .int .u64 0] 56 ?_; intro gb298 hg w66 hbox hb; have n0_ := Aside0.mk (blk_below (g := gb291) kA hb); have n1_ := Aside0.mk (below_step bA hb); have n2_ := Aside0.mk (hbox); have n3_ := Aside0.mk (gwA hg bA); have n4_ := Aside0.mk (gwA hg bA); have n5_ := Aside0.mk (neA (g := gb291) hg kA); have n6_ := Aside0.mk (neB (g := gb291) hg kA); clear BK291 HB; have BK291 := n0_; have HB := n1_; have BK298 := n2_; have GW298 := n3_; have GE298 := n4_; have NB291_298 := n5_; have NB298_291 := n6_; clear n0_ n1_ n2_ n3_ n4_ n5_ n6_ hb hbox hg) | ((with_reducible refine gate_dst (N := 4) rfl ?_); refine bxA 4 #[.int .u64 0, .int .u64 0] 56 ?_; intro gb299 hg w67 hbox hb; have n0_ := Aside0.mk (blk_below (g := gb291) kA hb); have n1_ := Aside0.mk (blk_below (g := gb298) kA hb); have n2_ := Aside0.mk (below_step bA hb); have n3_ := Aside0.mk (hbox); have n4_ := Aside0.mk (gwA hg bA); have n5_ := Aside0.mk (gwA hg bA); have n6_ := Aside0.mk (neA (g := gb291) hg kA); have n7_ := Aside0.mk (neB (g := gb291) hg kA); have n8_ := Aside0.mk (neA (g := gb298) hg kA); have n9_ := Aside0.mk (neB (g := gb298) hg kA); clear BK291 BK298 HB; have BK291 := n0_; have BK298 := n1_; have HB := n2_; have BK299 := n3_; have GW299 := n4_; have GE299 := n5_; have NB291_299 := n6_; have NB299_291 := n7_; have NB298_299 := n8_; have NB299_298 := n9_; clear n0_ n1_ n2_ n3_ n4_ n5_ n6_ n7_ n8_ n9_ hb hbox hg; have hnb68 := NB298_291.out; have hnc68 := NB291_298.out; have hnb69 := NB298_299.out; have hnc69 := NB299_298.out; have hcz70_0 : w67.cell? ⟨gb298, 0, none⟩ = some (.int .u64 0) := (blk_cell BK298.out 0).trans rfl; have hcz70_1 : w67.cell? ⟨gb298, 1, none⟩ = some (.int .u64 0) := (blk_cell BK298.out 1).trans rfl; have hfz70_0 := blk_frozen BK298.out 0; have hfz70_1 := blk_frozen BK298.out 1; have hnb71 := NB299_291.out; have hnc71 := NB291_299.out; have hcz72_0 : w67.cell? ⟨gb299, 0, none⟩ = some (.int .u64 0) := (blk_cell BK299.out 0).trans rfl; have hcz72_1 : w67.cell? ⟨gb299, 1, none⟩ = some (.int .u64 0) := (blk_cell BK299.out 1).trans rfl; have hfz72_0 := blk_frozen BK299.out 0; have hfz72_1 := blk_frozen BK299.out 1) | ((with_reducible refine gate_callee (f := 28) rfl ?_); refine goesL_ (some 35) rfl rfl Try.func28 (by kernel_rfl) rfl #[.agg #[.int .u64 t294, .int .u64 t295], .int .u64 1000] rfl aA ?_; (with_reducible refine (backfillref01_Times.calls t294 t295 1000 t300 t301 t302 _ A19.out).mono ?_); rintro e w73 ⟨rfl, hb⟩; refine ⟨_, rfl, ?_⟩; have n0_ := Aside0.mk (blk_below (g := gb291) (o := .cells #[.int .i64 a0_0, .int .i64 a0_1, .int .i64 a0_2, .int .i64 a0_3, .int .i64 a0_4, .int .i64 a0_5, .int .i64 a0_6, .int .i64 a0_7] 31 (0, 0)) (by (with_reducible repeat (first | refine blk_drewN ?_ _ | refine blk_drew ?_ | refine blk_alloc ?_ _)); refine blk_far ?_ NB291_299.out _; (with_reducible repeat (first | refine blk_drewN ?_ _ | refine blk_drew ?_ | refine blk_alloc ?_ _)); refine blk_far ?_ NB291_299.out _; (with_reducible repeat (first | refine blk_drewN ?_ _ | refine blk_drew ?_ | refine blk_alloc ?_ _)); refine blk_far ?_ NB291_298.out _; (with_reducible repeat (first | refine blk_drewN ?_ _ | refine blk_drew ?_ | refine blk_alloc ?_ _)); refine blk_far ?_ NB291_298.out _; exact kA) hb); have n1_ := Aside0.mk (blk_below (g := gb298) (o := .cells #[.int .u64 t294, .int .u64 t295] 56 (0, 0)) (by (with_reducible repeat (first | refine blk_drewN ?_ _ | refine blk_drew ?_ | refine blk_alloc ?_ _)); refine blk_far ?_ NB298_299.out _; (with_reducible repeat (first | refine blk_drewN ?_ _ | refine blk_drew ?_ | refine blk_alloc ?_ _)); refine blk_far ?_ NB298_299.out _; (with_reducible repeat (first | refine blk_drewN ?_ _ | refine blk_drew ?_ | refine blk_alloc ?_ _)); refine blk_put (cs := #[.int .u64 t294, .int .u64 0]) ?_ 1 _ rfl; (with_reducible repeat (first | refine blk_drewN ?_ _ | refine blk_drew ?_ | refine blk_alloc ?_ _)); refine blk_put (cs := #[.int .u64 0, .int .u64 0]) ?_ 0 _ rfl; exact kA) hb); have n2_ := Aside0.mk (blk_below (g := gb299) (o := .cells #[.int .u64 t296, .int .u64 t297] 56 (0, 0)) (by (with_reducible repeat (first | refine blk_drewN ?_ _ | refine blk_drew ?_ | refine blk_alloc ?_ _)); refine blk_put (cs := #[.int .u64 t296, .int .u64 0]) ?_ 1 _ rfl; (with_reducible repeat (first | refine blk_drewN ?_ _ | refine blk_drew ?_ | refine blk_alloc ?_ _)); refine blk_put (cs := #[.int .u64 0, .int .u64 0]) ?_ 0 _ rfl; (with_reducible repeat (first | refine blk_drewN ?_ _ | refine blk_drew ?_ | refine blk_alloc ?_ _)); refine blk_far ?_ NB299_298.out _; (with_reducible repeat (first | refine blk_drewN ?_ _ | refine blk_drew ?_ | refine blk_alloc ?_ _)); refine blk_far ?_ NB299_298.out _; exact kA) hb); have n3_ := Aside0.mk (below_step bA hb); clear BK291 BK298 BK299 HB; have BK291 := n0_; have BK298 := n1_; have BK299 := n2_; have HB := n3_; clear n0_ n1_ n2_ n3_; (try clear hb)) | ((with_reducible refine gate_dst (N := 5) rfl ?_); refine bxA 5 #[.int .u64 0, .int .u64 0] 56 ?_; intro gb303 hg w74 hbox hb; have n0_ := Aside0.mk (blk_below (g := gb291) kA hb); have n1_ := Aside0.mk (blk_below (g := gb298) kA hb); have n2_ := Aside0.mk (blk_below (g := gb299) kA hb); have n3_ := Aside0.mk (below_step bA hb); have n4_ := Aside0.mk (hbox); have n5_ := Aside0.mk (gwA hg bA); have n6_ := Aside0.mk (gwA hg bA); have n7_ := Aside0.mk (neA (g := gb291) hg kA); have n8_ := Aside0.mk (neB (g := gb291) hg kA); have n9_ := Aside0.mk (neA (g := gb298) hg kA); have n10_ := Aside0.mk (neB (g := gb298) hg kA); have n11_ := Aside0.mk (neA (g := gb299) hg kA); have n12_ := Aside0.mk (neB (g := gb299) hg kA); clear BK291 BK298 BK299 HB; have BK291 := n0_; have BK298 := n1_; have BK299 := n2_; have HB := n3_; have BK303 := n4_; have GW303 := n5_; have GE303 := n6_; have NB291_303 := n7_; have NB303_291 := n8_; have NB298_303 := n9_; have NB303_298 := n10_; have NB299_303 := n11_; have NB303_299 := n12_; clear n0_ n1_ n2_ n3_ n4_ n5_ n6_ n7_ n8_ n9_ n10_ n11_ n12_ hb hbox hg; have hnb75 := NB303_291.out; have hnc75 := NB291_303.out; have hnb76 := NB303_298.out; have hnc76 := NB298_303.out; have hnb77 := NB303_299.out; have hnc77 := NB299_303.out; have hcz78_0 : w74.cell? ⟨gb303, 0, none⟩ = some (.int .u64 0) := (blk_cell BK303.out 0).trans rfl; have hcz78_1 : w74.cell? ⟨gb303, 1, none⟩ = some (.int .u64 0) := (blk_cell BK303.out 1).trans rfl; have hfz78_0 := blk_frozen BK303.out 0; have hfz78_1 := blk_frozen BK303.out 1))
     have n0_ : Aside0 (((w74.setCell ⟨gb303, 0, none⟩ (.int .u64 t300)).setCell ⟨gb303, 1, none⟩ (.int .u64 t301)).heap[gb291]? = some (.cells #[.int .i64 a0_0, .int .i64 a0_1, .int .i64 a0_2, .int .i64 a0_3, .int .i64 a0_4, .int .i64 a0_5, .int .i64 a0_6, .int .i64 a0_7] 31 (0, 0))) := ⟨by (with_reducible repeat (first | refine blk_drewN ?_ _ | refine blk_drew ?_ | refine blk_alloc ?_ _)); refine blk_far ?_ NB291_303.out _; (with_reducible repeat (first | refine blk_drewN ?_ _ | refine blk_drew ?_ | refine blk_alloc ?_ _)); refine blk_far ?_ NB291_303.out _; exact kA⟩
     have n1_ : Aside0 (((w74.setCell ⟨gb303, 0, none⟩ (.int .u64 t300)).setCell ⟨gb303, 1, none⟩ (.int .u64 t301)).heap[gb298]? = some (.cells #[.int .u64 t294, .int .u64 t295] 56 (0, 0))) := ⟨by (with_reducible repeat (first | refine blk_drewN ?_ _ | refine blk_drew ?_ | refine blk_alloc ?_ _)); refine blk_far ?_ NB298_303.out _; (with_reducible repeat (first | refine blk_drewN ?_ _ | refine blk_drew ?_ | refine blk_alloc ?_ _)); refine blk_far ?_ NB298_303.out _; exact kA⟩
     have n2_ : Aside0 (((w74.setCell ⟨gb303, 0, none⟩ (.int .u64 t300)).setCell ⟨gb303, 1, none⟩ (.int .u64 t301)).heap[gb299]? = some (.cells #[.int .u64 t296, .int .u64 t297] 56 (0, 0))) := ⟨by (with_reducible repeat (first | refine blk_drewN ?_ _ | refine blk_drew ?_ | refine blk_alloc ?_ _)); refine blk_far ?_ NB299_303.out _; (with_reducible repeat (first | refine blk_drewN ?_ _ | refine blk_drew ?_ | refine blk_alloc ?_ _)); refine blk_far ?_ NB299_303.out _; exact kA⟩
     have n3_ : Aside0 (((w74.setCell ⟨gb303, 0, none⟩ (.int .u64 t300)).setCell ⟨gb303, 1, none⟩ (.int .u64 t301)).heap[gb303]? = some (.cells #[.int .u64 t300, .int .u64 t301] 56 (0, 0))) := ⟨by (with_reducible repeat (first | refine blk_drewN ?_ _ | refine blk_drew ?_ | refine blk_alloc ?_ _)); refine blk_put (cs := #[.int .u64 t300, .int .u64 0]) ?_ 1 _ rfl; (with_reducible repeat (first | refine blk_drewN ?_ _ | refine blk_drew ?_ | refine blk_alloc ?_ _)); refine blk_put (cs := #[.int .u64 0, .int .u64 0]) ?_ 0 _ rfl; exact kA⟩
     have n4_ : Aside0 (Below w.heap.size w ((w74.setCell ⟨gb303, 0, none⟩ (.int .u64 t300)).setCell ⟨gb303, 1, none⟩ (.int .u64 t301))) := ⟨bA⟩
     (try clear BK291); (try clear BK298); (try clear BK299); (try clear BK303); (try clear HB)
     generalize ((w74.setCell ⟨gb303, 0, none⟩ (.int .u64 t300)).setCell ⟨gb303, 1, none⟩ (.int .u64 t301)) = w79 at n0_ n1_ n2_ n3_ n4_ ⊢
     have BK291 := n0_; have BK298 := n1_; have BK299 := n2_; have BK303 := n3_; have HB := n4_; clear n0_ n1_ n2_ n3_ n4_; have n0_ := Aside0.mk (blk_drew BK291.out); have n1_ := Aside0.mk (blk_drew BK298.out); have n2_ := Aside0.mk (blk_drew BK299.out); have n3_ := Aside0.mk (blk_drew BK303.out); have n4_ := Aside0.mk (below_drew1 HB.out); clear BK291 BK298 BK299 BK303 HB; have BK291 := n0_; have BK298 := n1_; have BK299 := n2_; have BK303 := n3_; have HB := n4_; clear n0_ n1_ n2_ n3_ n4_
     refine start_ (n := 23) (S := fun w' => w'.cell? ⟨gb299, 0, none⟩ = some (.int .u64 t296) ∧ w'.cell? ⟨gb299, 1, none⟩ = some (.int .u64 t297) ∧ w'.cell? ⟨gb291, 0, none⟩ = some (.int .i64 a0_0) ∧ w'.cell? ⟨gb291, 1, none⟩ = some (.int .i64 a0_1) ∧ w'.cell? ⟨gb291, 2, none⟩ = some (.int .i64 a0_2) ∧ w'.cell? ⟨gb291, 3, none⟩ = some (.int .i64 a0_3) ∧ w'.cell? ⟨gb291, 4, none⟩ = some (.int .i64 a0_4) ∧ w'.cell? ⟨gb291, 5, none⟩ = some (.int .i64 a0_5) ∧ w'.cell? ⟨gb291, 6, none⟩ = some (.int .i64 a0_6) ∧ w'.cell? ⟨gb291, 7, none⟩ = some (.int .i64 a0_7)) (ds := []) #[false, false, false, false, false, false, false, false, false, false, false, false, false, false, false, false, false, false, false, false, false, false, false] (by kernel_rfl) rfl rfl ⟨(blk_cell BK299.out 0).trans rfl, (blk_cell BK299.out 1).trans rfl, (blk_cell BK291.out 0).trans rfl, (blk_cell BK291.out 1).trans rfl, (blk_cell BK291.out 2).trans rfl, (blk_cell BK291.out 3).trans rfl, (blk_cell BK291.out 4).trans rfl, (blk_cell BK291.out 5).trans rfl, (blk_cell BK291.out 6).trans rfl, (blk_cell BK291.out 7).trans rfl⟩ (fun hHeld => ?_); refine with_tabW backfillref11_Check.tab9 backfillref11_Check.bits9 (fun HT_ HW_ => ?_)
     generalize w79.drew = w80 at BK291 BK298 BK299 BK303 HB hHeld ⊢
     refine pure_ (i := 1) (N := some 40) (v := ?_) (a' := ?_) #[false, true, false, false, false, false, false, false, false, false, false, false, false, false, false, false, false, false, false, false, false, false, false] rfl rfl (any_of HT_.out (by kernel_rfl)) (fun _ _ _ h => h) (Or.inl ⟨by rfl, ?_⟩) ?_ ?_
     rotate_left
     ·intro w'
      go_simp; with_reducible rfl
     rotate_left
     ·simp only [Act.put, List.setIfInBounds_toArray, List.set_cons_zero, List.set_cons_succ, i64_w, i32_w]
      rfl
     refine pure_ (i := 6) (N := some 45) (v := ?_) (a' := ?_) #[false, true, false, false, false, false, true, false, false, false, false, false, false, false, false, false, false, false, false, false, false, false, false] rfl rfl (any_of HT_.out (by kernel_rfl)) (fun _ _ _ h => h) (Or.inl ⟨by rfl, ?_⟩) ?_ ?_
     rotate_left
     ·intro w'
      go_simp; with_reducible rfl
     rotate_left
     ·simp only [Act.put, List.setIfInBounds_toArray, List.set_cons_zero, List.set_cons_succ, i64_w, i32_w]
      rfl
     refine pure_ (i := 9) (N := some 48) (v := ?_) (a' := ?_) #[false, true, false, false, false, false, true, false, false, true, false, false, false, false, false, false, false, false, false, false, false, false, false] rfl rfl (any_of HT_.out (by kernel_rfl)) (fun _ _ _ h => h) (Or.inl ⟨by rfl, ?_⟩) ?_ ?_
     rotate_left
     ·intro w'
      go_simp; with_reducible rfl
     rotate_left
     ·simp only [Act.put, List.setIfInBounds_toArray, List.set_cons_zero, List.set_cons_succ, i64_w, i32_w]
      rfl
     refine pure_ (i := 11) (N := some 50) (v := ?_) (a' := ?_) #[false, true, false, false, false, false, true, false, false, true, false, true, false, false, false, false, false, false, false, false, false, false, false] rfl rfl (any_of HT_.out (by kernel_rfl)) (fun _ _ _ h => h) (Or.inl ⟨by rfl, ?_⟩) ?_ ?_
     rotate_left
     ·intro w'
      go_simp; with_reducible rfl
     rotate_left
     ·simp only [Act.put, List.setIfInBounds_toArray, List.set_cons_zero, List.set_cons_succ, i64_w, i32_w]
      rfl
     refine take_ (i := 0) (N := some 39) (v := ?_) (a' := ?_) #[true, true, false, false, false, false, true, false, false, true, false, true, false, false, false, false, false, false, false, false, false, false, false] rfl rfl (take_ofW HT_.out HW_.out (by kernel_rfl)) (fun _ _ _ h => h) (Or.inl ⟨by rfl, ?_⟩) hHeld ?_ ?_
     rotate_left
     ·rintro w' ⟨s0, s1, s2, s3, s4, s5, s6, s7, s8, s9⟩
      go_simp; with_reducible rfl
     rotate_left
     ·simp only [Act.put, List.setIfInBounds_toArray, List.set_cons_zero, List.set_cons_succ, i64_w, i32_w]
      rfl
     refine take_ (i := 2) (N := some 41) (v := ?_) (a' := ?_) #[true, true, true, false, false, false, true, false, false, true, false, true, false, false, false, false, false, false, false, false, false, false, false] rfl rfl (take_ofW HT_.out HW_.out (by kernel_rfl)) (fun _ _ _ h => h) (Or.inl ⟨by rfl, ?_⟩) hHeld ?_ ?_
     rotate_left
     ·rintro w' ⟨s0, s1, s2, s3, s4, s5, s6, s7, s8, s9⟩
      go_simp; with_reducible rfl
     rotate_left
     ·simp only [Act.put, List.setIfInBounds_toArray, List.set_cons_zero, List.set_cons_succ, i64_w, i32_w]
      rfl
     refine take_ (i := 3) (N := some 42) (v := ?_) (a' := ?_) #[true, true, true, true, false, false, true, false, false, true, false, true, false, false, false, false, false, false, false, false, false, false, false] rfl rfl (take_ofW HT_.out HW_.out (by kernel_rfl)) (fun _ _ _ h => h) (Or.inl ⟨by rfl, ?_⟩) hHeld ?_ ?_
     rotate_left
     ·rintro w' ⟨s0, s1, s2, s3, s4, s5, s6, s7, s8, s9⟩
      go_simp; with_reducible rfl
     rotate_left
     ·simp only [Act.put, List.setIfInBounds_toArray, List.set_cons_zero, List.set_cons_succ, i64_w, i32_w]
      rfl
     refine take_ (i := 7) (N := some 46) (v := ?_) (a' := ?_) #[true, true, true, true, false, false, true, true, false, true, false, true, false, false, false, false, false, false, false, false, false, false, false] rfl rfl (take_ofW HT_.out HW_.out (by kernel_rfl)) (fun _ _ _ h => h) (Or.inl ⟨by rfl, ?_⟩) hHeld ?_ ?_
     rotate_left
     ·rintro w' ⟨s0, s1, s2, s3, s4, s5, s6, s7, s8, s9⟩
      go_simp; with_reducible rfl
     rotate_left
     ·simp only [Act.put, List.setIfInBounds_toArray, List.set_cons_zero, List.set_cons_succ, i64_w, i32_w]
      rfl
     refine take_ (i := 10) (N := some 49) (v := ?_) (a' := ?_) #[true, true, true, true, false, false, true, true, false, true, true, true, false, false, false, false, false, false, false, false, false, false, false] rfl rfl (take_ofW HT_.out HW_.out (by kernel_rfl)) (fun _ _ _ h => h) (Or.inl ⟨by rfl, ?_⟩) hHeld ?_ ?_
     rotate_left
     ·rintro w' ⟨s0, s1, s2, s3, s4, s5, s6, s7, s8, s9⟩
      go_simp; with_reducible rfl
     rotate_left
     ·simp only [Act.put, List.setIfInBounds_toArray, List.set_cons_zero, List.set_cons_succ, i64_w, i32_w]
      rfl
     refine take_ (i := 12) (N := some 51) (v := ?_) (a' := ?_) #[true, true, true, true, false, false, true, true, false, true, true, true, true, false, false, false, false, false, false, false, false, false, false] rfl rfl (take_ofW HT_.out HW_.out (by kernel_rfl)) (fun _ _ _ h => h) (Or.inl ⟨by rfl, ?_⟩) hHeld ?_ ?_
     rotate_left
     ·rintro w' ⟨s0, s1, s2, s3, s4, s5, s6, s7, s8, s9⟩
      go_simp; with_reducible rfl
     rotate_left
     ·simp only [Act.put, List.setIfInBounds_toArray, List.set_cons_zero, List.set_cons_succ, i64_w, i32_w]
      rfl
     refine pure_ (i := 13) (N := some 52) (v := ?_) (a' := ?_) #[true, true, true, true, false, false, true, true, false, true, true, true, true, true, false, false, false, false, false, false, false, false, false] rfl rfl (any_of HT_.out (by kernel_rfl)) (fun _ _ _ h => h) (Or.inl ⟨by rfl, ?_⟩) ?_ ?_
     rotate_left
     ·intro w'
      go_simp; with_reducible rfl
     rotate_left
     ·simp only [Act.put, List.setIfInBounds_toArray, List.set_cons_zero, List.set_cons_succ, i64_w, i32_w]
      rfl
     refine join_ (σ := Nat) 2 #[true, true, true, true, true, true, true, true, true, true, true, true, true, true, true, true, true, true, true, true, true, false, false] (fun s_ => [(43, .int .i64 t304), (55, .tuple #[.agg #[.int .u64 t305, .int .u64 t306], .bool t307]), (7, .pointer (some ⟨s_, 0, none⟩)), (44, .int .i64 (wrap64 (a0_3 * t304))), (47, .int .i64 (wrap64 ((wrap64 (a0_3 * t304)) + a0_4))), (53, .int .i64 (wrap64 ((wrap64 ((wrap64 (a0_3 * t304)) + a0_4)) + (wrap64 (a0_5 * a0_0))))), (54, .int .u64 (IntKind.u64.wrap (wrap64 ((wrap64 ((wrap64 (a0_3 * t304)) + a0_4)) + (wrap64 (a0_5 * a0_0)))))), (38, .tuple #[.agg #[.int .u64 t305, .int .u64 t306], .bool t307]), (56, .agg #[.int .u64 t305, .int .u64 t306]), (57, .bool t307)]) (fun s_ w' => (w'.cell? ⟨gb299, 0, none⟩ = some (.int .u64 t296) ∧ w'.cell? ⟨gb299, 1, none⟩ = some (.int .u64 t297) ∧ w'.cell? ⟨gb291, 0, none⟩ = some (.int .i64 a0_0) ∧ w'.cell? ⟨gb291, 1, none⟩ = some (.int .i64 a0_1) ∧ w'.cell? ⟨gb291, 2, none⟩ = some (.int .i64 a0_2) ∧ w'.cell? ⟨gb291, 3, none⟩ = some (.int .i64 a0_3) ∧ w'.cell? ⟨gb291, 4, none⟩ = some (.int .i64 a0_4) ∧ w'.cell? ⟨gb291, 5, none⟩ = some (.int .i64 a0_5) ∧ w'.cell? ⟨gb291, 6, none⟩ = some (.int .i64 a0_6) ∧ w'.cell? ⟨gb291, 7, none⟩ = some (.int .i64 a0_7)) ∧ (w'.heap[gb291]? = some (.cells #[.int .i64 a0_0, .int .i64 a0_1, .int .i64 a0_2, .int .i64 a0_3, .int .i64 a0_4, .int .i64 a0_5, .int .i64 a0_6, .int .i64 a0_7] 31 (0, 0))) ∧ (w'.heap[gb298]? = some (.cells #[.int .u64 t294, .int .u64 t295] 56 (0, 0))) ∧ (w'.heap[gb299]? = some (.cells #[.int .u64 t296, .int .u64 t297] 56 (0, 0))) ∧ (w'.heap[gb303]? = some (.cells #[.int .u64 t300, .int .u64 t301] 56 (0, 0))) ∧ (w'.heap[s_]? = some (.cells #[.int .u64 0, .int .u64 0] 56 (0, 0))) ∧ (w.heap.size ≤ s_) ∧ (w.heap.size ≤ s_) ∧ (gb291 ≠ s_) ∧ (s_ ≠ gb291) ∧ (gb298 ≠ s_) ∧ (s_ ≠ gb298) ∧ (gb299 ≠ s_) ∧ (s_ ≠ gb299) ∧ (gb303 ≠ s_) ∧ (s_ ≠ gb303) ∧ (Below w.heap.size w w')) ?_ ?_
     rotate_left
     ·intro hCont
      refine two_ (i := 4) (j := 20) (Ni := some 43) (Nj := some 7) #[true, true, true, true, true, false, true, true, false, true, true, true, true, true, false, false, false, false, false, false, false, false, false] #[true, true, true, true, false, false, true, true, false, true, true, true, true, true, false, false, false, false, false, false, true, false, false] rfl rfl rfl rfl (two_of HT_.out (by kernel_rfl)) (by decide) (by decide) (fun K hK => ?_) (fun K hK => ?_)
      ·skip
       refine goes_ Try.func29 (by kernel_rfl) rfl #[.agg #[.int .i64 a0_0, .int .i64 a0_1, .int .i64 a0_2, .int .i64 a0_3, .int .i64 a0_4, .int .i64 a0_5, .int .i64 a0_6, .int .i64 a0_7]] (by rfl) rfl rfl aA ?_
       with_reducible refine (backfillref11_bound.calls a0_0 a0_1 a0_2 a0_3 a0_4 a0_5 a0_6 a0_7 t304 _ A20.out).mono ?_
       rintro e w81 ⟨rfl, hb⟩
       refine ⟨_, rfl, ?_⟩; have n0_ := Aside0.mk (blk_below (g := gb291) kA hb); have n1_ := Aside0.mk (blk_below (g := gb298) kA hb); have n2_ := Aside0.mk (blk_below (g := gb299) kA hb); have n3_ := Aside0.mk (blk_below (g := gb303) kA hb); have n4_ := Aside0.mk (below_step bA hb); clear BK291 BK298 BK299 BK303 HB; have BK291 := n0_; have BK298 := n1_; have BK299 := n2_; have BK303 := n3_; have HB := n4_; clear n0_ n1_ n2_ n3_ n4_; (try clear hb)
       refine hK.out _ _ ⟨(blk_cell BK299.out 0).trans rfl, (blk_cell BK299.out 1).trans rfl, (blk_cell BK291.out 0).trans rfl, (blk_cell BK291.out 1).trans rfl, (blk_cell BK291.out 2).trans rfl, (blk_cell BK291.out 3).trans rfl, (blk_cell BK291.out 4).trans rfl, (blk_cell BK291.out 5).trans rfl, (blk_cell BK291.out 6).trans rfl, (blk_cell BK291.out 7).trans rfl⟩ (fun hHeld => ?_)
       clear hK K
       refine norm_ (a' := ?_) ?_ ?_
       rotate_left
       ·show Act.put _ (some 43) _ = _
        simp only [Act.put, List.setIfInBounds_toArray, List.set_cons_zero, List.set_cons_succ, i64_w, i32_w]
        rfl
       refine pure_ (i := 5) (N := some 44) (v := ?_) (a' := ?_) #[true, true, true, true, true, true, true, true, false, true, true, true, true, true, false, false, false, false, false, false, false, false, false] rfl rfl (any_of HT_.out (by kernel_rfl)) (fun _ _ _ h => h) (Or.inl ⟨by rfl, ?_⟩) ?_ ?_
       rotate_left
       ·intro w'
        go_simp; with_reducible rfl
       rotate_left
       ·simp only [Act.put, List.setIfInBounds_toArray, List.set_cons_zero, List.set_cons_succ, i64_w, i32_w]
        rfl
       refine pure_ (i := 8) (N := some 47) (v := ?_) (a' := ?_) #[true, true, true, true, true, true, true, true, true, true, true, true, true, true, false, false, false, false, false, false, false, false, false] rfl rfl (any_of HT_.out (by kernel_rfl)) (fun _ _ _ h => h) (Or.inl ⟨by rfl, ?_⟩) ?_ ?_
       rotate_left
       ·intro w'
        go_simp; with_reducible rfl
       rotate_left
       ·simp only [Act.put, List.setIfInBounds_toArray, List.set_cons_zero, List.set_cons_succ, i64_w, i32_w]
        rfl
       refine pure_ (i := 14) (N := some 53) (v := ?_) (a' := ?_) #[true, true, true, true, true, true, true, true, true, true, true, true, true, true, true, false, false, false, false, false, false, false, false] rfl rfl (any_of HT_.out (by kernel_rfl)) (fun _ _ _ h => h) (Or.inl ⟨by rfl, ?_⟩) ?_ ?_
       rotate_left
       ·intro w'
        go_simp; with_reducible rfl
       rotate_left
       ·simp only [Act.put, List.setIfInBounds_toArray, List.set_cons_zero, List.set_cons_succ, i64_w, i32_w]
        rfl
       refine pure_ (i := 15) (N := some 54) (v := ?_) (a' := ?_) #[true, true, true, true, true, true, true, true, true, true, true, true, true, true, true, true, false, false, false, false, false, false, false] rfl rfl (any_of HT_.out (by kernel_rfl)) (fun _ _ _ h => h) (Or.inl ⟨by rfl, ?_⟩) ?_ ?_
       rotate_left
       ·intro w'
        go_simp; with_reducible rfl
       rotate_left
       ·simp only [Act.put, List.setIfInBounds_toArray, List.set_cons_zero, List.set_cons_succ, i64_w, i32_w]
        rfl
       refine two_ (i := 16) (j := 20) (Ni := some 55) (Nj := some 7) #[true, true, true, true, true, true, true, true, true, true, true, true, true, true, true, true, true, false, false, false, false, false, false] #[true, true, true, true, true, true, true, true, true, true, true, true, true, true, true, true, false, false, false, false, true, false, false] rfl rfl rfl rfl (two_of HT_.out (by kernel_rfl)) (by decide) (by decide) (fun K hK => ?_) (fun K hK => ?_)
       ·skip
        refine goes_ Try.func28 (by kernel_rfl) rfl #[.agg #[.int .u64 t296, .int .u64 t297], .int .u64 (IntKind.u64.wrap (wrap64 ((wrap64 ((wrap64 (a0_3 * t304)) + a0_4)) + (wrap64 (a0_5 * a0_0)))))] (by rfl) rfl rfl aA ?_
        with_reducible refine (backfillref01_Times.calls t296 t297 (IntKind.u64.wrap (wrap64 ((wrap64 ((wrap64 (a0_3 * t304)) + a0_4)) + (wrap64 (a0_5 * a0_0))))) t305 t306 t307 _ A21.out).mono ?_
        rintro e w82 ⟨rfl, hb⟩
        refine ⟨_, rfl, ?_⟩; have n0_ := Aside0.mk (blk_below (g := gb291) kA hb); have n1_ := Aside0.mk (blk_below (g := gb298) kA hb); have n2_ := Aside0.mk (blk_below (g := gb299) kA hb); have n3_ := Aside0.mk (blk_below (g := gb303) kA hb); have n4_ := Aside0.mk (below_step bA hb); clear BK291 BK298 BK299 BK303 HB; have BK291 := n0_; have BK298 := n1_; have BK299 := n2_; have BK303 := n3_; have HB := n4_; clear n0_ n1_ n2_ n3_ n4_; (try clear hb)
        refine hK.out _ _ ⟨(blk_cell BK299.out 0).trans rfl, (blk_cell BK299.out 1).trans rfl, (blk_cell BK291.out 0).trans rfl, (blk_cell BK291.out 1).trans rfl, (blk_cell BK291.out 2).trans rfl, (blk_cell BK291.out 3).trans rfl, (blk_cell BK291.out 4).trans rfl, (blk_cell BK291.out 5).trans rfl, (blk_cell BK291.out 6).trans rfl, (blk_cell BK291.out 7).trans rfl⟩ (fun hHeld => ?_)
        clear hK K
        refine norm_ (a' := ?_) ?_ ?_
        rotate_left
        ·show Act.put _ (some 55) _ = _
         simp only [Act.put, List.setIfInBounds_toArray, List.set_cons_zero, List.set_cons_succ, i64_w, i32_w]
         rfl
        refine pure_ (i := 17) (N := some 38) (v := ?_) (a' := ?_) #[true, true, true, true, true, true, true, true, true, true, true, true, true, true, true, true, true, true, false, false, false, false, false] rfl rfl (any_of HT_.out (by kernel_rfl)) (fun _ _ _ h => h) (Or.inl ⟨by rfl, ?_⟩) ?_ ?_
        rotate_left
        ·intro w'
         go_simp; with_reducible rfl
        rotate_left
        ·simp only [Act.put, List.setIfInBounds_toArray, List.set_cons_zero, List.set_cons_succ, i64_w, i32_w]
         rfl
        refine pure_ (i := 18) (N := some 56) (v := ?_) (a' := ?_) #[true, true, true, true, true, true, true, true, true, true, true, true, true, true, true, true, true, true, true, false, false, false, false] rfl rfl (any_of HT_.out (by kernel_rfl)) (fun _ _ _ h => h) (Or.inl ⟨by rfl, ?_⟩) ?_ ?_
        rotate_left
        ·intro w'
         go_simp; with_reducible rfl
        rotate_left
        ·simp only [Act.put, List.setIfInBounds_toArray, List.set_cons_zero, List.set_cons_succ, i64_w, i32_w]
         rfl
        refine pure_ (i := 19) (N := some 57) (v := ?_) (a' := ?_) #[true, true, true, true, true, true, true, true, true, true, true, true, true, true, true, true, true, true, true, true, false, false, false] rfl rfl (any_of HT_.out (by kernel_rfl)) (fun _ _ _ h => h) (Or.inl ⟨by rfl, ?_⟩) ?_ ?_
        rotate_left
        ·intro w'
         go_simp; with_reducible rfl
        rotate_left
        ·simp only [Act.put, List.setIfInBounds_toArray, List.set_cons_zero, List.set_cons_succ, i64_w, i32_w]
         rfl
        refine one_ (i := 20) (N := some 7) #[true, true, true, true, true, true, true, true, true, true, true, true, true, true, true, true, true, true, true, true, true, false, false] rfl rfl (one_of HT_.out (by kernel_rfl)) (by decide) (fun K hK => ?_)
        refine box_step ?hg (N := 7) ?hd (cs := #[.int .u64 0, .int .u64 0]) (t := 56) ?hr ?_; (case hd => rfl); (case hg => rfl); (case hr => first | (go_simp; done) | (go_simp; rfl))
        intro gb308 hg w83 hbox hb
        have n0_ := Aside0.mk (blk_below (g := gb291) kA hb); have n1_ := Aside0.mk (blk_below (g := gb298) kA hb); have n2_ := Aside0.mk (blk_below (g := gb299) kA hb); have n3_ := Aside0.mk (blk_below (g := gb303) kA hb); have n4_ := Aside0.mk (below_step bA hb); have n5_ := Aside0.mk (hbox); have n6_ := Aside0.mk (gwA hg bA); have n7_ := Aside0.mk (gwA hg bA); have n8_ := Aside0.mk (neA (g := gb291) hg kA); have n9_ := Aside0.mk (neB (g := gb291) hg kA); have n10_ := Aside0.mk (neA (g := gb298) hg kA); have n11_ := Aside0.mk (neB (g := gb298) hg kA); have n12_ := Aside0.mk (neA (g := gb299) hg kA); have n13_ := Aside0.mk (neB (g := gb299) hg kA); have n14_ := Aside0.mk (neA (g := gb303) hg kA); have n15_ := Aside0.mk (neB (g := gb303) hg kA); clear BK291 BK298 BK299 BK303 HB; have BK291 := n0_; have BK298 := n1_; have BK299 := n2_; have BK303 := n3_; have HB := n4_; have BK308 := n5_; have GW308 := n6_; have GE308 := n7_; have NB291_308 := n8_; have NB308_291 := n9_; have NB298_308 := n10_; have NB308_298 := n11_; have NB299_308 := n12_; have NB308_299 := n13_; have NB303_308 := n14_; have NB308_303 := n15_; clear n0_ n1_ n2_ n3_ n4_ n5_ n6_ n7_ n8_ n9_ n10_ n11_ n12_ n13_ n14_ n15_ hb hbox hg
        refine hK.out _ _ ⟨(blk_cell BK299.out 0).trans rfl, (blk_cell BK299.out 1).trans rfl, (blk_cell BK291.out 0).trans rfl, (blk_cell BK291.out 1).trans rfl, (blk_cell BK291.out 2).trans rfl, (blk_cell BK291.out 3).trans rfl, (blk_cell BK291.out 4).trans rfl, (blk_cell BK291.out 5).trans rfl, (blk_cell BK291.out 6).trans rfl, (blk_cell BK291.out 7).trans rfl⟩ (fun hHeld => ?_)
        clear hK K
        refine norm_ (a' := ?_) ?_ ?_
        rotate_left
        ·show Act.put _ (some 7) _ = _
         simp only [Act.put, List.setIfInBounds_toArray, List.set_cons_zero, List.set_cons_succ, i64_w, i32_w]
         rfl
        exact norm_ (by simp only [putAll, Act.put, List.setIfInBounds_toArray, List.set_cons_zero, List.set_cons_succ]) (hCont (gb308) _ ⟨hHeld, kA, kA, kA, kA, kA, GW308.out, GE308.out, NB291_308.out, NB308_291.out, NB298_308.out, NB308_298.out, NB299_308.out, NB308_299.out, NB303_308.out, NB308_303.out, bA⟩)
       ·skip
        refine box_step ?hg (N := 7) ?hd (cs := #[.int .u64 0, .int .u64 0]) (t := 56) ?hr ?_; (case hd => rfl); (case hg => rfl); (case hr => first | (go_simp; done) | (go_simp; rfl))
        intro gb308 hg w82 hbox hb
        have n0_ := Aside0.mk (blk_below (g := gb291) kA hb); have n1_ := Aside0.mk (blk_below (g := gb298) kA hb); have n2_ := Aside0.mk (blk_below (g := gb299) kA hb); have n3_ := Aside0.mk (blk_below (g := gb303) kA hb); have n4_ := Aside0.mk (below_step bA hb); have n5_ := Aside0.mk (hbox); have n6_ := Aside0.mk (gwA hg bA); have n7_ := Aside0.mk (gwA hg bA); have n8_ := Aside0.mk (neA (g := gb291) hg kA); have n9_ := Aside0.mk (neB (g := gb291) hg kA); have n10_ := Aside0.mk (neA (g := gb298) hg kA); have n11_ := Aside0.mk (neB (g := gb298) hg kA); have n12_ := Aside0.mk (neA (g := gb299) hg kA); have n13_ := Aside0.mk (neB (g := gb299) hg kA); have n14_ := Aside0.mk (neA (g := gb303) hg kA); have n15_ := Aside0.mk (neB (g := gb303) hg kA); clear BK291 BK298 BK299 BK303 HB; have BK291 := n0_; have BK298 := n1_; have BK299 := n2_; have BK303 := n3_; have HB := n4_; have BK308 := n5_; have GW308 := n6_; have GE308 := n7_; have NB291_308 := n8_; have NB308_291 := n9_; have NB298_308 := n10_; have NB308_298 := n11_; have NB299_308 := n12_; have NB308_299 := n13_; have NB303_308 := n14_; have NB308_303 := n15_; clear n0_ n1_ n2_ n3_ n4_ n5_ n6_ n7_ n8_ n9_ n10_ n11_ n12_ n13_ n14_ n15_ hb hbox hg
        refine hK.out _ _ ⟨(blk_cell BK299.out 0).trans rfl, (blk_cell BK299.out 1).trans rfl, (blk_cell BK291.out 0).trans rfl, (blk_cell BK291.out 1).trans rfl, (blk_cell BK291.out 2).trans rfl, (blk_cell BK291.out 3).trans rfl, (blk_cell BK291.out 4).trans rfl, (blk_cell BK291.out 5).trans rfl, (blk_cell BK291.out 6).trans rfl, (blk_cell BK291.out 7).trans rfl⟩ (fun hHeld => ?_)
        clear hK K
        refine norm_ (a' := ?_) ?_ ?_
        rotate_left
        ·show Act.put _ (some 7) _ = _
         simp only [Act.put, List.setIfInBounds_toArray, List.set_cons_zero, List.set_cons_succ, i64_w, i32_w]
         rfl
        refine one_ (i := 16) (N := some 55) #[true, true, true, true, true, true, true, true, true, true, true, true, true, true, true, true, true, false, false, false, true, false, false] rfl rfl (one_of HT_.out (by kernel_rfl)) (by decide) (fun K hK => ?_)
        refine goes_ Try.func28 (by kernel_rfl) rfl #[.agg #[.int .u64 t296, .int .u64 t297], .int .u64 (IntKind.u64.wrap (wrap64 ((wrap64 ((wrap64 (a0_3 * t304)) + a0_4)) + (wrap64 (a0_5 * a0_0)))))] (by rfl) rfl rfl aA ?_
        with_reducible refine (backfillref01_Times.calls t296 t297 (IntKind.u64.wrap (wrap64 ((wrap64 ((wrap64 (a0_3 * t304)) + a0_4)) + (wrap64 (a0_5 * a0_0))))) t305 t306 t307 _ A21.out).mono ?_
        rintro e w83 ⟨rfl, hb⟩
        refine ⟨_, rfl, ?_⟩; have n0_ := Aside0.mk (blk_below (g := gb291) kA hb); have n1_ := Aside0.mk (blk_below (g := gb298) kA hb); have n2_ := Aside0.mk (blk_below (g := gb299) kA hb); have n3_ := Aside0.mk (blk_below (g := gb303) kA hb); have n4_ := Aside0.mk (blk_below (g := gb308) kA hb); have n5_ := Aside0.mk (below_step bA hb); clear BK291 BK298 BK299 BK303 BK308 HB; have BK291 := n0_; have BK298 := n1_; have BK299 := n2_; have BK303 := n3_; have BK308 := n4_; have HB := n5_; clear n0_ n1_ n2_ n3_ n4_ n5_; (try clear hb)
        refine hK.out _ _ ⟨(blk_cell BK299.out 0).trans rfl, (blk_cell BK299.out 1).trans rfl, (blk_cell BK291.out 0).trans rfl, (blk_cell BK291.out 1).trans rfl, (blk_cell BK291.out 2).trans rfl, (blk_cell BK291.out 3).trans rfl, (blk_cell BK291.out 4).trans rfl, (blk_cell BK291.out 5).trans rfl, (blk_cell BK291.out 6).trans rfl, (blk_cell BK291.out 7).trans rfl⟩ (fun hHeld => ?_)
        clear hK K
        refine norm_ (a' := ?_) ?_ ?_
        rotate_left
        ·show Act.put _ (some 55) _ = _
         simp only [Act.put, List.setIfInBounds_toArray, List.set_cons_zero, List.set_cons_succ, i64_w, i32_w]
         rfl
        refine pure_ (i := 17) (N := some 38) (v := ?_) (a' := ?_) #[true, true, true, true, true, true, true, true, true, true, true, true, true, true, true, true, true, true, false, false, true, false, false] rfl rfl (any_of HT_.out (by kernel_rfl)) (fun _ _ _ h => h) (Or.inl ⟨by rfl, ?_⟩) ?_ ?_
        rotate_left
        ·intro w'
         go_simp; with_reducible rfl
        rotate_left
        ·simp only [Act.put, List.setIfInBounds_toArray, List.set_cons_zero, List.set_cons_succ, i64_w, i32_w]
         rfl
        refine pure_ (i := 18) (N := some 56) (v := ?_) (a' := ?_) #[true, true, true, true, true, true, true, true, true, true, true, true, true, true, true, true, true, true, true, false, true, false, false] rfl rfl (any_of HT_.out (by kernel_rfl)) (fun _ _ _ h => h) (Or.inl ⟨by rfl, ?_⟩) ?_ ?_
        rotate_left
        ·intro w'
         go_simp; with_reducible rfl
        rotate_left
        ·simp only [Act.put, List.setIfInBounds_toArray, List.set_cons_zero, List.set_cons_succ, i64_w, i32_w]
         rfl
        refine pure_ (i := 19) (N := some 57) (v := ?_) (a' := ?_) #[true, true, true, true, true, true, true, true, true, true, true, true, true, true, true, true, true, true, true, true, true, false, false] rfl rfl (any_of HT_.out (by kernel_rfl)) (fun _ _ _ h => h) (Or.inl ⟨by rfl, ?_⟩) ?_ ?_
        rotate_left
        ·intro w'
         go_simp; with_reducible rfl
        rotate_left
        ·simp only [Act.put, List.setIfInBounds_toArray, List.set_cons_zero, List.set_cons_succ, i64_w, i32_w]
         rfl
        exact norm_ (by simp only [putAll, Act.put, List.setIfInBounds_toArray, List.set_cons_zero, List.set_cons_succ]) (hCont (gb308) _ ⟨hHeld, kA, kA, kA, kA, kA, GW308.out, GE308.out, NB291_308.out, NB308_291.out, NB298_308.out, NB308_298.out, NB299_308.out, NB308_299.out, NB303_308.out, NB308_303.out, bA⟩)
      ·skip
       refine box_step ?hg (N := 7) ?hd (cs := #[.int .u64 0, .int .u64 0]) (t := 56) ?hr ?_; (case hd => rfl); (case hg => rfl); (case hr => first | (go_simp; done) | (go_simp; rfl))
       intro gb308 hg w81 hbox hb
       have n0_ := Aside0.mk (blk_below (g := gb291) kA hb); have n1_ := Aside0.mk (blk_below (g := gb298) kA hb); have n2_ := Aside0.mk (blk_below (g := gb299) kA hb); have n3_ := Aside0.mk (blk_below (g := gb303) kA hb); have n4_ := Aside0.mk (below_step bA hb); have n5_ := Aside0.mk (hbox); have n6_ := Aside0.mk (gwA hg bA); have n7_ := Aside0.mk (gwA hg bA); have n8_ := Aside0.mk (neA (g := gb291) hg kA); have n9_ := Aside0.mk (neB (g := gb291) hg kA); have n10_ := Aside0.mk (neA (g := gb298) hg kA); have n11_ := Aside0.mk (neB (g := gb298) hg kA); have n12_ := Aside0.mk (neA (g := gb299) hg kA); have n13_ := Aside0.mk (neB (g := gb299) hg kA); have n14_ := Aside0.mk (neA (g := gb303) hg kA); have n15_ := Aside0.mk (neB (g := gb303) hg kA); clear BK291 BK298 BK299 BK303 HB; have BK291 := n0_; have BK298 := n1_; have BK299 := n2_; have BK303 := n3_; have HB := n4_; have BK308 := n5_; have GW308 := n6_; have GE308 := n7_; have NB291_308 := n8_; have NB308_291 := n9_; have NB298_308 := n10_; have NB308_298 := n11_; have NB299_308 := n12_; have NB308_299 := n13_; have NB303_308 := n14_; have NB308_303 := n15_; clear n0_ n1_ n2_ n3_ n4_ n5_ n6_ n7_ n8_ n9_ n10_ n11_ n12_ n13_ n14_ n15_ hb hbox hg
       refine hK.out _ _ ⟨(blk_cell BK299.out 0).trans rfl, (blk_cell BK299.out 1).trans rfl, (blk_cell BK291.out 0).trans rfl, (blk_cell BK291.out 1).trans rfl, (blk_cell BK291.out 2).trans rfl, (blk_cell BK291.out 3).trans rfl, (blk_cell BK291.out 4).trans rfl, (blk_cell BK291.out 5).trans rfl, (blk_cell BK291.out 6).trans rfl, (blk_cell BK291.out 7).trans rfl⟩ (fun hHeld => ?_)
       clear hK K
       refine norm_ (a' := ?_) ?_ ?_
       rotate_left
       ·show Act.put _ (some 7) _ = _
        simp only [Act.put, List.setIfInBounds_toArray, List.set_cons_zero, List.set_cons_succ, i64_w, i32_w]
        rfl
       refine one_ (i := 4) (N := some 43) #[true, true, true, true, true, false, true, true, false, true, true, true, true, true, false, false, false, false, false, false, true, false, false] rfl rfl (one_of HT_.out (by kernel_rfl)) (by decide) (fun K hK => ?_)
       refine goes_ Try.func29 (by kernel_rfl) rfl #[.agg #[.int .i64 a0_0, .int .i64 a0_1, .int .i64 a0_2, .int .i64 a0_3, .int .i64 a0_4, .int .i64 a0_5, .int .i64 a0_6, .int .i64 a0_7]] (by rfl) rfl rfl aA ?_
       with_reducible refine (backfillref11_bound.calls a0_0 a0_1 a0_2 a0_3 a0_4 a0_5 a0_6 a0_7 t304 _ A20.out).mono ?_
       rintro e w82 ⟨rfl, hb⟩
       refine ⟨_, rfl, ?_⟩; have n0_ := Aside0.mk (blk_below (g := gb291) kA hb); have n1_ := Aside0.mk (blk_below (g := gb298) kA hb); have n2_ := Aside0.mk (blk_below (g := gb299) kA hb); have n3_ := Aside0.mk (blk_below (g := gb303) kA hb); have n4_ := Aside0.mk (blk_below (g := gb308) kA hb); have n5_ := Aside0.mk (below_step bA hb); clear BK291 BK298 BK299 BK303 BK308 HB; have BK291 := n0_; have BK298 := n1_; have BK299 := n2_; have BK303 := n3_; have BK308 := n4_; have HB := n5_; clear n0_ n1_ n2_ n3_ n4_ n5_; (try clear hb)
       refine hK.out _ _ ⟨(blk_cell BK299.out 0).trans rfl, (blk_cell BK299.out 1).trans rfl, (blk_cell BK291.out 0).trans rfl, (blk_cell BK291.out 1).trans rfl, (blk_cell BK291.out 2).trans rfl, (blk_cell BK291.out 3).trans rfl, (blk_cell BK291.out 4).trans rfl, (blk_cell BK291.out 5).trans rfl, (blk_cell BK291.out 6).trans rfl, (blk_cell BK291.out 7).trans rfl⟩ (fun hHeld => ?_)
       clear hK K
       refine norm_ (a' := ?_) ?_ ?_
       rotate_left
       ·show Act.put _ (some 43) _ = _
        simp only [Act.put, List.setIfInBounds_toArray, List.set_cons_zero, List.set_cons_succ, i64_w, i32_w]
        rfl
       refine pure_ (i := 5) (N := some 44) (v := ?_) (a' := ?_) #[true, true, true, true, true, true, true, true, false, true, true, true, true, true, false, false, false, false, false, false, true, false, false] rfl rfl (any_of HT_.out (by kernel_rfl)) (fun _ _ _ h => h) (Or.inl ⟨by rfl, ?_⟩) ?_ ?_
       rotate_left
       ·intro w'
        go_simp; with_reducible rfl
       rotate_left
       ·simp only [Act.put, List.setIfInBounds_toArray, List.set_cons_zero, List.set_cons_succ, i64_w, i32_w]
        rfl
       refine pure_ (i := 8) (N := some 47) (v := ?_) (a' := ?_) #[true, true, true, true, true, true, true, true, true, true, true, true, true, true, false, false, false, false, false, false, true, false, false] rfl rfl (any_of HT_.out (by kernel_rfl)) (fun _ _ _ h => h) (Or.inl ⟨by rfl, ?_⟩) ?_ ?_
       rotate_left
       ·intro w'
        go_simp; with_reducible rfl
       rotate_left
       ·simp only [Act.put, List.setIfInBounds_toArray, List.set_cons_zero, List.set_cons_succ, i64_w, i32_w]
        rfl
       refine pure_ (i := 14) (N := some 53) (v := ?_) (a' := ?_) #[true, true, true, true, true, true, true, true, true, true, true, true, true, true, true, false, false, false, false, false, true, false, false] rfl rfl (any_of HT_.out (by kernel_rfl)) (fun _ _ _ h => h) (Or.inl ⟨by rfl, ?_⟩) ?_ ?_
       rotate_left
       ·intro w'
        go_simp; with_reducible rfl
       rotate_left
       ·simp only [Act.put, List.setIfInBounds_toArray, List.set_cons_zero, List.set_cons_succ, i64_w, i32_w]
        rfl
       refine pure_ (i := 15) (N := some 54) (v := ?_) (a' := ?_) #[true, true, true, true, true, true, true, true, true, true, true, true, true, true, true, true, false, false, false, false, true, false, false] rfl rfl (any_of HT_.out (by kernel_rfl)) (fun _ _ _ h => h) (Or.inl ⟨by rfl, ?_⟩) ?_ ?_
       rotate_left
       ·intro w'
        go_simp; with_reducible rfl
       rotate_left
       ·simp only [Act.put, List.setIfInBounds_toArray, List.set_cons_zero, List.set_cons_succ, i64_w, i32_w]
        rfl
       refine one_ (i := 16) (N := some 55) #[true, true, true, true, true, true, true, true, true, true, true, true, true, true, true, true, true, false, false, false, true, false, false] rfl rfl (one_of HT_.out (by kernel_rfl)) (by decide) (fun K hK => ?_)
       refine goes_ Try.func28 (by kernel_rfl) rfl #[.agg #[.int .u64 t296, .int .u64 t297], .int .u64 (IntKind.u64.wrap (wrap64 ((wrap64 ((wrap64 (a0_3 * t304)) + a0_4)) + (wrap64 (a0_5 * a0_0)))))] (by rfl) rfl rfl aA ?_
       with_reducible refine (backfillref01_Times.calls t296 t297 (IntKind.u64.wrap (wrap64 ((wrap64 ((wrap64 (a0_3 * t304)) + a0_4)) + (wrap64 (a0_5 * a0_0))))) t305 t306 t307 _ A21.out).mono ?_
       rintro e w83 ⟨rfl, hb⟩
       refine ⟨_, rfl, ?_⟩; have n0_ := Aside0.mk (blk_below (g := gb291) kA hb); have n1_ := Aside0.mk (blk_below (g := gb298) kA hb); have n2_ := Aside0.mk (blk_below (g := gb299) kA hb); have n3_ := Aside0.mk (blk_below (g := gb303) kA hb); have n4_ := Aside0.mk (blk_below (g := gb308) kA hb); have n5_ := Aside0.mk (below_step bA hb); clear BK291 BK298 BK299 BK303 BK308 HB; have BK291 := n0_; have BK298 := n1_; have BK299 := n2_; have BK303 := n3_; have BK308 := n4_; have HB := n5_; clear n0_ n1_ n2_ n3_ n4_ n5_; (try clear hb)
       refine hK.out _ _ ⟨(blk_cell BK299.out 0).trans rfl, (blk_cell BK299.out 1).trans rfl, (blk_cell BK291.out 0).trans rfl, (blk_cell BK291.out 1).trans rfl, (blk_cell BK291.out 2).trans rfl, (blk_cell BK291.out 3).trans rfl, (blk_cell BK291.out 4).trans rfl, (blk_cell BK291.out 5).trans rfl, (blk_cell BK291.out 6).trans rfl, (blk_cell BK291.out 7).trans rfl⟩ (fun hHeld => ?_)
       clear hK K
       refine norm_ (a' := ?_) ?_ ?_
       rotate_left
       ·show Act.put _ (some 55) _ = _
        simp only [Act.put, List.setIfInBounds_toArray, List.set_cons_zero, List.set_cons_succ, i64_w, i32_w]
        rfl
       refine pure_ (i := 17) (N := some 38) (v := ?_) (a' := ?_) #[true, true, true, true, true, true, true, true, true, true, true, true, true, true, true, true, true, true, false, false, true, false, false] rfl rfl (any_of HT_.out (by kernel_rfl)) (fun _ _ _ h => h) (Or.inl ⟨by rfl, ?_⟩) ?_ ?_
       rotate_left
       ·intro w'
        go_simp; with_reducible rfl
       rotate_left
       ·simp only [Act.put, List.setIfInBounds_toArray, List.set_cons_zero, List.set_cons_succ, i64_w, i32_w]
        rfl
       refine pure_ (i := 18) (N := some 56) (v := ?_) (a' := ?_) #[true, true, true, true, true, true, true, true, true, true, true, true, true, true, true, true, true, true, true, false, true, false, false] rfl rfl (any_of HT_.out (by kernel_rfl)) (fun _ _ _ h => h) (Or.inl ⟨by rfl, ?_⟩) ?_ ?_
       rotate_left
       ·intro w'
        go_simp; with_reducible rfl
       rotate_left
       ·simp only [Act.put, List.setIfInBounds_toArray, List.set_cons_zero, List.set_cons_succ, i64_w, i32_w]
        rfl
       refine pure_ (i := 19) (N := some 57) (v := ?_) (a' := ?_) #[true, true, true, true, true, true, true, true, true, true, true, true, true, true, true, true, true, true, true, true, true, false, false] rfl rfl (any_of HT_.out (by kernel_rfl)) (fun _ _ _ h => h) (Or.inl ⟨by rfl, ?_⟩) ?_ ?_
       rotate_left
       ·intro w'
        go_simp; with_reducible rfl
       rotate_left
       ·simp only [Act.put, List.setIfInBounds_toArray, List.set_cons_zero, List.set_cons_succ, i64_w, i32_w]
        rfl
       exact norm_ (by simp only [putAll, Act.put, List.setIfInBounds_toArray, List.set_cons_zero, List.set_cons_succ]) (hCont (gb308) _ ⟨hHeld, kA, kA, kA, kA, kA, GW308.out, GE308.out, NB291_308.out, NB308_291.out, NB298_308.out, NB308_298.out, NB299_308.out, NB308_299.out, NB303_308.out, NB308_303.out, bA⟩)
     rintro gb308 w84 ⟨hS_, h0_, h1_, h2_, h3_, h4_, h5_, h6_, h7_, h8_, h9_, h10_, h11_, h12_, h13_, h14_, h15_⟩
     have n0_ : Aside0 (w84.heap[gb291]? = some (.cells #[.int .i64 a0_0, .int .i64 a0_1, .int .i64 a0_2, .int .i64 a0_3, .int .i64 a0_4, .int .i64 a0_5, .int .i64 a0_6, .int .i64 a0_7] 31 (0, 0))) := ⟨h0_⟩
     have n1_ : Aside0 (w84.heap[gb298]? = some (.cells #[.int .u64 t294, .int .u64 t295] 56 (0, 0))) := ⟨h1_⟩
     have n2_ : Aside0 (w84.heap[gb299]? = some (.cells #[.int .u64 t296, .int .u64 t297] 56 (0, 0))) := ⟨h2_⟩
     have n3_ : Aside0 (w84.heap[gb303]? = some (.cells #[.int .u64 t300, .int .u64 t301] 56 (0, 0))) := ⟨h3_⟩
     have n4_ : Aside0 (w84.heap[gb308]? = some (.cells #[.int .u64 0, .int .u64 0] 56 (0, 0))) := ⟨h4_⟩
     have n5_ : Aside0 (w.heap.size ≤ gb308) := ⟨h5_⟩
     have n6_ : Aside0 (w.heap.size ≤ gb308) := ⟨h6_⟩
     have n7_ : Aside0 (gb291 ≠ gb308) := ⟨h7_⟩
     have n8_ : Aside0 (gb308 ≠ gb291) := ⟨h8_⟩
     have n9_ : Aside0 (gb298 ≠ gb308) := ⟨h9_⟩
     have n10_ : Aside0 (gb308 ≠ gb298) := ⟨h10_⟩
     have n11_ : Aside0 (gb299 ≠ gb308) := ⟨h11_⟩
     have n12_ : Aside0 (gb308 ≠ gb299) := ⟨h12_⟩
     have n13_ : Aside0 (gb303 ≠ gb308) := ⟨h13_⟩
     have n14_ : Aside0 (gb308 ≠ gb303) := ⟨h14_⟩
     have n15_ : Aside0 (Below w.heap.size w w84) := ⟨h15_⟩
     clear BK291 BK298 BK299 BK303 HB h0_ h1_ h2_ h3_ h4_ h5_ h6_ h7_ h8_ h9_ h10_ h11_ h12_ h13_ h14_ h15_; have BK291 := n0_; have BK298 := n1_; have BK299 := n2_; have BK303 := n3_; have BK308 := n4_; have GW308 := n5_; have GE308 := n6_; have NB291_308 := n7_; have NB308_291 := n8_; have NB298_308 := n9_; have NB308_298 := n10_; have NB299_308 := n11_; have NB308_299 := n12_; have NB303_308 := n13_; have NB308_303 := n14_; have HB := n15_; clear n0_ n1_ n2_ n3_ n4_ n5_ n6_ n7_ n8_ n9_ n10_ n11_ n12_ n13_ n14_ n15_
     have hHeld : w84.cell? ⟨gb299, 0, none⟩ = some (.int .u64 t296) ∧ w84.cell? ⟨gb299, 1, none⟩ = some (.int .u64 t297) ∧ w84.cell? ⟨gb291, 0, none⟩ = some (.int .i64 a0_0) ∧ w84.cell? ⟨gb291, 1, none⟩ = some (.int .i64 a0_1) ∧ w84.cell? ⟨gb291, 2, none⟩ = some (.int .i64 a0_2) ∧ w84.cell? ⟨gb291, 3, none⟩ = some (.int .i64 a0_3) ∧ w84.cell? ⟨gb291, 4, none⟩ = some (.int .i64 a0_4) ∧ w84.cell? ⟨gb291, 5, none⟩ = some (.int .i64 a0_5) ∧ w84.cell? ⟨gb291, 6, none⟩ = some (.int .i64 a0_6) ∧ w84.cell? ⟨gb291, 7, none⟩ = some (.int .i64 a0_7) := hS_
     refine norm_ (a' := ?_) ?_ ?_
     rotate_left
     ·simp only [putAll, Act.put, List.setIfInBounds_toArray, List.set_cons_zero, List.set_cons_succ]
      rfl
     refine one_ (i := 21) (N := none) #[true, true, true, true, true, true, true, true, true, true, true, true, true, true, true, true, true, true, true, true, true, true, false] rfl rfl (one_of HT_.out (by kernel_rfl)) (by decide) (fun K hK => ?_)
     have hs85 : w84.cell? ⟨gb308, 0, none⟩ = some (.int .u64 0) := (blk_cell BK308.out 0).trans rfl
     have hfs85 := blk_frozen BK308.out 0
     have hns85_0 := NB291_308.out
     have hns85_1 := NB298_308.out
     have hns85_2 := NB299_308.out
     have hns85_3 := NB303_308.out
     have hms85_0 := NB308_291.out
     have hms85_1 := NB308_298.out
     have hms85_2 := NB308_299.out
     have hms85_3 := NB308_303.out
     have hs86 : w84.cell? ⟨gb308, 1, none⟩ = some (.int .u64 0) := (blk_cell BK308.out 1).trans rfl
     have hfs86 := blk_frozen BK308.out 1
     have hns86_0 := NB291_308.out
     have hns86_1 := NB298_308.out
     have hns86_2 := NB299_308.out
     have hns86_3 := NB303_308.out
     have hms86_0 := NB308_291.out
     have hms86_1 := NB308_298.out
     have hms86_2 := NB308_299.out
     have hms86_3 := NB308_303.out
     refine skip_ (w1 := ?_) (by rfl) rfl ?_ ?_
     rotate_left
     ·go_simp
      rfl
     refine hK.out _ _ ⟨((cell_far (p := ⟨gb308, _, none⟩) NB299_308.out _).trans (((cell_far (p := ⟨gb308, _, none⟩) NB299_308.out _).trans (hHeld.1)))), ((cell_far (p := ⟨gb308, _, none⟩) NB299_308.out _).trans (((cell_far (p := ⟨gb308, _, none⟩) NB299_308.out _).trans (hHeld.2.1)))), ((cell_far (p := ⟨gb308, _, none⟩) NB291_308.out _).trans (((cell_far (p := ⟨gb308, _, none⟩) NB291_308.out _).trans (hHeld.2.2.1)))), ((cell_far (p := ⟨gb308, _, none⟩) NB291_308.out _).trans (((cell_far (p := ⟨gb308, _, none⟩) NB291_308.out _).trans (hHeld.2.2.2.1)))), ((cell_far (p := ⟨gb308, _, none⟩) NB291_308.out _).trans (((cell_far (p := ⟨gb308, _, none⟩) NB291_308.out _).trans (hHeld.2.2.2.2.1)))), ((cell_far (p := ⟨gb308, _, none⟩) NB291_308.out _).trans (((cell_far (p := ⟨gb308, _, none⟩) NB291_308.out _).trans (hHeld.2.2.2.2.2.1)))), ((cell_far (p := ⟨gb308, _, none⟩) NB291_308.out _).trans (((cell_far (p := ⟨gb308, _, none⟩) NB291_308.out _).trans (hHeld.2.2.2.2.2.2.1)))), ((cell_far (p := ⟨gb308, _, none⟩) NB291_308.out _).trans (((cell_far (p := ⟨gb308, _, none⟩) NB291_308.out _).trans (hHeld.2.2.2.2.2.2.2.1)))), ((cell_far (p := ⟨gb308, _, none⟩) NB291_308.out _).trans (((cell_far (p := ⟨gb308, _, none⟩) NB291_308.out _).trans (hHeld.2.2.2.2.2.2.2.2.1)))), ((cell_far (p := ⟨gb308, _, none⟩) NB291_308.out _).trans (((cell_far (p := ⟨gb308, _, none⟩) NB291_308.out _).trans (hHeld.2.2.2.2.2.2.2.2.2))))⟩ (fun hHeld => ?_)
     clear hK K
     refine pure_ (i := 22) (N := some 8) (v := ?_) (a' := ?_) #[true, true, true, true, true, true, true, true, true, true, true, true, true, true, true, true, true, true, true, true, true, true, true] rfl rfl (any_of HT_.out (by kernel_rfl)) (fun _ _ _ h => h) (Or.inl ⟨by rfl, ?_⟩) ?_ ?_
     rotate_left
     ·intro w'
      go_simp; with_reducible rfl
     rotate_left
     ·simp only [Act.put, List.setIfInBounds_toArray, List.set_cons_zero, List.set_cons_succ, i64_w, i32_w]
      rfl
     refine done_ (done_of HT_.out (by kernel_rfl)) ?_
     have hnb87 := NB303_308.out
     have hnc87 := NB308_303.out
     have hcz88_0 : w84.cell? ⟨gb303, 0, none⟩ = some (.int .u64 t300) := (blk_cell BK303.out 0).trans rfl
     have hcz88_1 : w84.cell? ⟨gb303, 1, none⟩ = some (.int .u64 t301) := (blk_cell BK303.out 1).trans rfl
     have hfz88_0 := blk_frozen BK303.out 0
     have hfz88_1 := blk_frozen BK303.out 1
     have hnb89 := NB308_291.out
     have hnc89 := NB291_308.out
     have hnb90 := NB308_298.out
     have hnc90 := NB298_308.out
     have hnb91 := NB308_299.out
     have hnc91 := NB299_308.out
     have hcz92_0 : w84.cell? ⟨gb308, 0, none⟩ = some (.int .u64 0) := (blk_cell BK308.out 0).trans rfl
     have hcz92_1 : w84.cell? ⟨gb308, 1, none⟩ = some (.int .u64 0) := (blk_cell BK308.out 1).trans rfl
     have hfz92_0 := blk_frozen BK308.out 0
     have hfz92_1 := blk_frozen BK308.out 1
     try go_wp2_with (first | ((with_reducible refine gate_callee (f := 30) rfl ?_); refine goesL_ (some 60) rfl rfl Try.func30 (by kernel_rfl) rfl #[.agg #[.int .u64 t300, .int .u64 t301], .agg #[.int .u64 t305, .int .u64 t306]] rfl aA ?_; (with_reducible refine (backfillref01_Cmp.calls k t300 t301 t305 t306 t309 _ A22.out).mono ?_); rintro e w93 ⟨rfl, hb⟩; refine ⟨_, rfl, ?_⟩; have n0_ := Aside0.mk (blk_below (g := gb291) (o := .cells #[.int .i64 a0_0, .int .i64 a0_1, .int .i64 a0_2, .int .i64 a0_3, .int .i64 a0_4, .int .i64 a0_5, .int .i64 a0_6, .int .i64 a0_7] 31 (0, 0)) (by (with_reducible repeat (first | refine blk_drewN ?_ _ | refine blk_drew ?_ | refine blk_alloc ?_ _)); refine blk_far ?_ NB291_308.out _; (with_reducible repeat (first | refine blk_drewN ?_ _ | refine blk_drew ?_ | refine blk_alloc ?_ _)); refine blk_far ?_ NB291_308.out _; exact kA) hb); have n1_ := Aside0.mk (blk_below (g := gb298) (o := .cells #[.int .u64 t294, .int .u64 t295] 56 (0, 0)) (by (with_reducible repeat (first | refine blk_drewN ?_ _ | refine blk_drew ?_ | refine blk_alloc ?_ _)); refine blk_far ?_ NB298_308.out _; (with_reducible repeat (first | refine blk_drewN ?_ _ | refine blk_drew ?_ | refine blk_alloc ?_ _)); refine blk_far ?_ NB298_308.out _; exact kA) hb); have n2_ := Aside0.mk (blk_below (g := gb299) (o := .cells #[.int .u64 t296, .int .u64 t297] 56 (0, 0)) (by (with_reducible repeat (first | refine blk_drewN ?_ _ | refine blk_drew ?_ | refine blk_alloc ?_ _)); refine blk_far ?_ NB299_308.out _; (with_reducible repeat (first | refine blk_drewN ?_ _ | refine blk_drew ?_ | refine blk_alloc ?_ _)); refine blk_far ?_ NB299_308.out _; exact kA) hb); have n3_ := Aside0.mk (blk_below (g := gb303) (o := .cells #[.int .u64 t300, .int .u64 t301] 56 (0, 0)) (by (with_reducible repeat (first | refine blk_drewN ?_ _ | refine blk_drew ?_ | refine blk_alloc ?_ _)); refine blk_far ?_ NB303_308.out _; (with_reducible repeat (first | refine blk_drewN ?_ _ | refine blk_drew ?_ | refine blk_alloc ?_ _)); refine blk_far ?_ NB303_308.out _; exact kA) hb); have n4_ := Aside0.mk (blk_below (g := gb308) (o := .cells #[.int .u64 t305, .int .u64 t306] 56 (0, 0)) (by (with_reducible repeat (first | refine blk_drewN ?_ _ | refine blk_drew ?_ | refine blk_alloc ?_ _)); refine blk_put (cs := #[.int .u64 t305, .int .u64 0]) ?_ 1 _ rfl; (with_reducible repeat (first | refine blk_drewN ?_ _ | refine blk_drew ?_ | refine blk_alloc ?_ _)); refine blk_put (cs := #[.int .u64 0, .int .u64 0]) ?_ 0 _ rfl; exact kA) hb); have n5_ := Aside0.mk (below_step bA hb); clear BK291 BK298 BK299 BK303 BK308 HB; have BK291 := n0_; have BK298 := n1_; have BK299 := n2_; have BK303 := n3_; have BK308 := n4_; have HB := n5_; clear n0_ n1_ n2_ n3_ n4_ n5_; (try clear hb)))
     go_ret
     exact ⟨by first | rfl | (simp [errW_none, errW_some] <;> rfl) | (simp [*, errW_none, errW_some] <;> rfl), bA⟩
 ·replace c3 := Bool.eq_false_iff.mpr c3
  subst c3
  have H1 : (some 110) = some r := by rw [if_neg (show ¬ (false = true) by decide)] at H; exact H
  clear H
  have H := H1
  clear H1
  obtain rfl := Option.some.inj H
  go_enter Try.func14, Try.ntmps14
  go_wp2_with (first | ((with_reducible refine gate_dst (N := 1) rfl ?_); refine bxA 1 #[.int .i64 a0_0, .int .i64 a0_1, .int .i64 a0_2, .int .i64 a0_3, .int .i64 a0_4, .int .i64 a0_5, .int .i64 a0_6, .int .i64 a0_7] 31 ?_; intro gb291 hg w94 hbox hb; have n0_ := Aside0.mk (below_step bA hb); have n1_ := Aside0.mk (hbox); have n2_ := Aside0.mk (gwA hg bA); have n3_ := Aside0.mk (gwA hg bA); clear HB; have HB := n0_; have BK291 := n1_; have GW291 := n2_; have GE291 := n3_; clear n0_ n1_ n2_ n3_ hb hbox hg; have hcz95_0 : w94.cell? ⟨gb291, 0, none⟩ = some (.int .i64 a0_0) := (blk_cell BK291.out 0).trans rfl; have hcz95_1 : w94.cell? ⟨gb291, 1, none⟩ = some (.int .i64 a0_1) := (blk_cell BK291.out 1).trans rfl; have hcz95_2 : w94.cell? ⟨gb291, 2, none⟩ = some (.int .i64 a0_2) := (blk_cell BK291.out 2).trans rfl; have hcz95_3 : w94.cell? ⟨gb291, 3, none⟩ = some (.int .i64 a0_3) := (blk_cell BK291.out 3).trans rfl; have hcz95_4 : w94.cell? ⟨gb291, 4, none⟩ = some (.int .i64 a0_4) := (blk_cell BK291.out 4).trans rfl; have hcz95_5 : w94.cell? ⟨gb291, 5, none⟩ = some (.int .i64 a0_5) := (blk_cell BK291.out 5).trans rfl; have hcz95_6 : w94.cell? ⟨gb291, 6, none⟩ = some (.int .i64 a0_6) := (blk_cell BK291.out 6).trans rfl; have hcz95_7 : w94.cell? ⟨gb291, 7, none⟩ = some (.int .i64 a0_7) := (blk_cell BK291.out 7).trans rfl; have hfz95_0 := blk_frozen BK291.out 0; have hfz95_1 := blk_frozen BK291.out 1; have hfz95_2 := blk_frozen BK291.out 2; have hfz95_3 := blk_frozen BK291.out 3; have hfz95_4 := blk_frozen BK291.out 4; have hfz95_5 := blk_frozen BK291.out 5; have hfz95_6 := blk_frozen BK291.out 6; have hfz95_7 := blk_frozen BK291.out 7) | ((with_reducible refine gate_callee (f := 25) rfl ?_); refine goesL_ (some 10) rfl rfl Try.func25 (by kernel_rfl) rfl #[.agg #[.int .i64 a0_0, .int .i64 a0_1, .int .i64 a0_2, .int .i64 a0_3, .int .i64 a0_4, .int .i64 a0_5, .int .i64 a0_6, .int .i64 a0_7]] rfl aA ?_; (with_reducible refine (backfillref11_ranges.calls k a0_0 a0_1 a0_2 a0_3 a0_4 a0_5 a0_6 a0_7 false _ A2.out).mono ?_); rintro e w96 ⟨rfl, hb⟩; refine ⟨_, rfl, ?_⟩; have n0_ := Aside0.mk (blk_below (g := gb291) kA hb); have n1_ := Aside0.mk (below_step bA hb); clear BK291 HB; have BK291 := n0_; have HB := n1_; clear n0_ n1_; (try clear hb)))
  go_ret
  exact ⟨by first | rfl | (simp [errW_none, errW_some] <;> rfl) | (simp [*, errW_none, errW_some] <;> rfl), bA⟩

end Go.Proofs.Ytodibpddlibneaa.GPT
