-- Laid by a program of this session (wip/tools/pr.py): contracts and pure functions; Lean checks it.
import Derived.Test.YtcolhngdhlamkaaGCTx0
import Derived.Test.YtcolhngdhlamkaaGCTx10
namespace Go.Proofs.Ytcolhngdhlamkaa.GCT
open Go.RowKit Go.Proofs.YtcolhngdhlamkaaW.PrintWords Go.Proofs.YtcolhngdhlamkaaW.PrintLast Go.Proofs.YtcolhngdhlamkaaW.PrintMore
attribute [local go_sem] max2_int min2_int max_two min_two max_three min_three max_four min_four   -- for this text's walks alone
set_option linter.unusedVariables false
set_option linter.unusedSimpArgs false

/-! ### backfillref11_off: function 72 -/
def backfillref11_off.f (a0_0 : Int) (a0_1 : Int) (a0_2 : Int) (a0_3 : Int) (a0_4 : Int) (a0_5 : Int) (a0_6 : Int) (a0_7 : Int) : Option (Int × Int × Int × Int) := if a0_4 = 0 then ((backfillref01_Of.f 1).bind fun bt295 => (some (0, 0, bt295.1, bt295.2))) else ((backfillref11_C.f a0_0 a0_1 a0_2 a0_3 a0_4 a0_5 a0_6 a0_7).bind fun t297 => ((backfillref01_Mul.f (IntKind.u64.wrap (t297)) 4294967296).bind fun bt298 => ((backfillref11_G.f a0_0 a0_1 a0_2 a0_3 a0_4 a0_5 a0_6 a0_7).bind fun t301 => ((backfillref01_Mul.f 258048 (IntKind.u64.wrap (t301))).bind fun bt302 => ((backfillref11_C.f a0_0 a0_1 a0_2 a0_3 a0_4 a0_5 a0_6 a0_7).bind fun t305 => ((backfillref01_Of.f (IntKind.u64.wrap (wrap64 (2 * t305)))).bind fun bt306 => ((backfillref01_Add.f bt302.1 bt302.2 bt306.1 bt306.2).bind fun bt308 => ((backfillref01_Times.f bt308.1 bt308.2.1 (IntKind.u64.wrap (a0_4))).bind fun bt311 => ((backfillref01_Add.f bt311.1 bt311.2.1 bt298.1 bt298.2).bind fun bt314 => (some (bt314.1, bt314.2.1, bt298.1, bt298.2)))))))))))
def backfillref11_off.T5 : Bool × List (List Nat × List Nat) := (true, [([], []), ([], []), ([1], [1]), ([2], [2]), ([3], [3]), ([4, 2], [4]), ([0, 5, 5], [0, 5]), ([6], [6]), ([7], [7]), ([7], [7]), ([8, 6, 0, 1, 2, 3, 4, 5, 6, 7, 8], [8])])
def backfillref11_off.B5 : List Nat := [0, 0, 2, 6, 14, 30, 63, 127, 255, 255, 511]
theorem backfillref11_off.tab5 : rtab .any (opsOf Try.f72 5) = backfillref11_off.T5 := by kernel_rfl
theorem backfillref11_off.bits5 : waitsOk backfillref11_off.T5.2 backfillref11_off.B5 = true := by kernel_rfl
set_option maxHeartbeats 8000000 in
set_option maxRecDepth 100000 in
theorem backfillref11_off.calls (a0_0 : Int) (a0_1 : Int) (a0_2 : Int) (a0_3 : Int) (a0_4 : Int) (a0_5 : Int) (a0_6 : Int) (a0_7 : Int) (r1 : Int) (r2 : Int) (r3 : Int) (r4 : Int) (w : World) (h : backfillref11_off.f a0_0 a0_1 a0_2 a0_3 a0_4 a0_5 a0_6 a0_7 = some (r1, r2, r3, r4)) :
  Calls Try.prog 72 #[.agg #[.int .i64 a0_0, .int .i64 a0_1, .int .i64 a0_2, .int .i64 a0_3, .int .i64 a0_4, .int .i64 a0_5, .int .i64 a0_6, .int .i64 a0_7]] w fun e w' => e = .returned (.tuple #[.agg #[.int .u64 r1, .int .u64 r2], .agg #[.int .u64 r3, .int .u64 r4]]) ∧ Below w.heap.size w w' := by
 have hu39 := Try.underlying39
 have hu28 := Try.underlying28
 have HB := Aside0.mk (Below.refl w.heap.size w)
 have H : (if a0_4 = 0 then ((backfillref01_Of.f 1).bind fun bt295 => (some (0, 0, bt295.1, bt295.2))) else ((backfillref11_C.f a0_0 a0_1 a0_2 a0_3 a0_4 a0_5 a0_6 a0_7).bind fun t297 => ((backfillref01_Mul.f (IntKind.u64.wrap (t297)) 4294967296).bind fun bt298 => ((backfillref11_G.f a0_0 a0_1 a0_2 a0_3 a0_4 a0_5 a0_6 a0_7).bind fun t301 => ((backfillref01_Mul.f 258048 (IntKind.u64.wrap (t301))).bind fun bt302 => ((backfillref11_C.f a0_0 a0_1 a0_2 a0_3 a0_4 a0_5 a0_6 a0_7).bind fun t305 => ((backfillref01_Of.f (IntKind.u64.wrap (wrap64 (2 * t305)))).bind fun bt306 => ((backfillref01_Add.f bt302.1 bt302.2 bt306.1 bt306.2).bind fun bt308 => ((backfillref01_Times.f bt308.1 bt308.2.1 (IntKind.u64.wrap (a0_4))).bind fun bt311 => ((backfillref01_Add.f bt311.1 bt311.2.1 bt298.1 bt298.2).bind fun bt314 => (some (bt314.1, bt314.2.1, bt298.1, bt298.2)))))))))))) = some (r1, r2, r3, r4) := h
 clear h
 by_cases c2 : a0_4 = 0
 ·rw [if_pos c2] at H
  have c2b0 : (a0_4 == 0) = true := beq_iff_eq.mpr c2
  have c2b1 : (a0_4 != 0) = false := bne_eq_false_iff_eq.mpr c2
  clear c2; replace H := Option.bind_eq_some_iff.mp H; obtain ⟨⟨t295, t296⟩, A30, H⟩ := H; replace H : (some (0, 0, t295, t296)) = some (r1, r2, r3, r4) := H; have A3 := Aside0.mk A30; clear A30
  simp only [Option.some.injEq, Prod.mk.injEq] at H
  obtain ⟨rfl, rfl, rfl, rfl⟩ := H
  go_enter Try.func72, Try.ntmps72
  go_wp2_with (first | ((with_reducible refine gate_dst (N := 1) rfl ?_); refine bxA 1 #[.int .i64 a0_0, .int .i64 a0_1, .int .i64 a0_2, .int .i64 a0_3, .int .i64 a0_4, .int .i64 a0_5, .int .i64 a0_6, .int .i64 a0_7] 39 ?_; intro gb292 hg w4 hbox hb; have n0_ := Aside0.mk (below_step bA hb); have n1_ := Aside0.mk (hbox); have n2_ := Aside0.mk (gwA hg bA); have n3_ := Aside0.mk (gwA hg bA); clear HB; have HB := n0_; have BK292 := n1_; have GW292 := n2_; have GE292 := n3_; clear n0_ n1_ n2_ n3_ hb hbox hg) | ((with_reducible refine gate_dst (N := 2) rfl ?_); refine bxA 2 #[.int .u64 0, .int .u64 0] 28 ?_; intro gb293 hg w5 hbox hb; have n0_ := Aside0.mk (blk_below (g := gb292) kA hb); have n1_ := Aside0.mk (below_step bA hb); have n2_ := Aside0.mk (hbox); have n3_ := Aside0.mk (gwA hg bA); have n4_ := Aside0.mk (gwA hg bA); have n5_ := Aside0.mk (neA (g := gb292) hg kA); have n6_ := Aside0.mk (neB (g := gb292) hg kA); clear BK292 HB; have BK292 := n0_; have HB := n1_; have BK293 := n2_; have GW293 := n3_; have GE293 := n4_; have NB292_293 := n5_; have NB293_292 := n6_; clear n0_ n1_ n2_ n3_ n4_ n5_ n6_ hb hbox hg) | ((with_reducible refine gate_dst (N := 3) rfl ?_); refine bxA 3 #[.int .u64 0, .int .u64 0] 28 ?_; intro gb294 hg w6 hbox hb; have n0_ := Aside0.mk (blk_below (g := gb292) kA hb); have n1_ := Aside0.mk (blk_below (g := gb293) kA hb); have n2_ := Aside0.mk (below_step bA hb); have n3_ := Aside0.mk (hbox); have n4_ := Aside0.mk (gwA hg bA); have n5_ := Aside0.mk (gwA hg bA); have n6_ := Aside0.mk (neA (g := gb292) hg kA); have n7_ := Aside0.mk (neB (g := gb292) hg kA); have n8_ := Aside0.mk (neA (g := gb293) hg kA); have n9_ := Aside0.mk (neB (g := gb293) hg kA); clear BK292 BK293 HB; have BK292 := n0_; have BK293 := n1_; have HB := n2_; have BK294 := n3_; have GW294 := n4_; have GE294 := n5_; have NB292_294 := n6_; have NB294_292 := n7_; have NB293_294 := n8_; have NB294_293 := n9_; clear n0_ n1_ n2_ n3_ n4_ n5_ n6_ n7_ n8_ n9_ hb hbox hg; have hnb7 := NB292_293.out; have hnc7 := NB293_292.out; have hnb8 := NB292_294.out; have hnc8 := NB294_292.out; have hcz9_0 : w6.cell? ⟨gb292, 0, none⟩ = some (.int .i64 a0_0) := (blk_cell BK292.out 0).trans rfl; have hcz9_1 : w6.cell? ⟨gb292, 1, none⟩ = some (.int .i64 a0_1) := (blk_cell BK292.out 1).trans rfl; have hcz9_2 : w6.cell? ⟨gb292, 2, none⟩ = some (.int .i64 a0_2) := (blk_cell BK292.out 2).trans rfl; have hcz9_3 : w6.cell? ⟨gb292, 3, none⟩ = some (.int .i64 a0_3) := (blk_cell BK292.out 3).trans rfl; have hcz9_4 : w6.cell? ⟨gb292, 4, none⟩ = some (.int .i64 a0_4) := (blk_cell BK292.out 4).trans rfl; have hcz9_5 : w6.cell? ⟨gb292, 5, none⟩ = some (.int .i64 a0_5) := (blk_cell BK292.out 5).trans rfl; have hcz9_6 : w6.cell? ⟨gb292, 6, none⟩ = some (.int .i64 a0_6) := (blk_cell BK292.out 6).trans rfl; have hcz9_7 : w6.cell? ⟨gb292, 7, none⟩ = some (.int .i64 a0_7) := (blk_cell BK292.out 7).trans rfl; have hfz9_0 := blk_frozen BK292.out 0; have hfz9_1 := blk_frozen BK292.out 1; have hfz9_2 := blk_frozen BK292.out 2; have hfz9_3 := blk_frozen BK292.out 3; have hfz9_4 := blk_frozen BK292.out 4; have hfz9_5 := blk_frozen BK292.out 5; have hfz9_6 := blk_frozen BK292.out 6; have hfz9_7 := blk_frozen BK292.out 7) | ((with_reducible refine gate_callee (f := 93) rfl ?_); refine goesL_ (some 10) rfl rfl Try.func93 (by kernel_rfl) rfl #[.int .u64 1] rfl aA ?_; (with_reducible refine (backfillref01_Of.calls 1 t295 t296 _ A3.out).mono ?_); rintro e w10 ⟨rfl, hb⟩; refine ⟨_, rfl, ?_⟩; have n0_ := Aside0.mk (blk_below (g := gb292) kA hb); have n1_ := Aside0.mk (blk_below (g := gb293) kA hb); have n2_ := Aside0.mk (blk_below (g := gb294) kA hb); have n3_ := Aside0.mk (below_step bA hb); clear BK292 BK293 BK294 HB; have BK292 := n0_; have BK293 := n1_; have BK294 := n2_; have HB := n3_; clear n0_ n1_ n2_ n3_; (try clear hb); have hnb11 := NB293_294.out; have hnc11 := NB294_293.out; have hcz12_0 : w10.cell? ⟨gb293, 0, none⟩ = some (.int .u64 0) := (blk_cell BK293.out 0).trans rfl; have hcz12_1 : w10.cell? ⟨gb293, 1, none⟩ = some (.int .u64 0) := (blk_cell BK293.out 1).trans rfl; have hfz12_0 := blk_frozen BK293.out 0; have hfz12_1 := blk_frozen BK293.out 1; have hcz13_0 : w10.cell? ⟨gb294, 0, none⟩ = some (.int .u64 0) := (blk_cell BK294.out 0).trans rfl; have hcz13_1 : w10.cell? ⟨gb294, 1, none⟩ = some (.int .u64 0) := (blk_cell BK294.out 1).trans rfl; have hfz13_0 := blk_frozen BK294.out 0; have hfz13_1 := blk_frozen BK294.out 1))
  refine bodyPost_ret (results_cc rfl _ _ gb293 gb294 28 28 #[.int .u64 0, .int .u64 0] #[.int .u64 t295, .int .u64 t296] (0, 0) (0, 0) _ _ rfl (by (with_reducible repeat (first | refine blk_drewN ?_ _ | refine blk_drew ?_ | refine blk_alloc ?_ _)); refine blk_far ?_ NB293_294.out _; (with_reducible repeat (first | refine blk_drewN ?_ _ | refine blk_drew ?_ | refine blk_alloc ?_ _)); refine blk_far ?_ NB293_294.out _; (with_reducible repeat (first | refine blk_drewN ?_ _ | refine blk_drew ?_ | refine blk_alloc ?_ _)); refine blk_put (cs := #[.int .u64 0, .int .u64 0]) ?_ 1 _ rfl; (with_reducible repeat (first | refine blk_drewN ?_ _ | refine blk_drew ?_ | refine blk_alloc ?_ _)); refine blk_put (cs := #[.int .u64 0, .int .u64 0]) ?_ 0 _ rfl; exact kA) Try.underlying28 rfl (by kernel_rfl) rfl (by (with_reducible repeat (first | refine blk_drewN ?_ _ | refine blk_drew ?_ | refine blk_alloc ?_ _)); refine blk_put (cs := #[.int .u64 t295, .int .u64 0]) ?_ 1 _ rfl; (with_reducible repeat (first | refine blk_drewN ?_ _ | refine blk_drew ?_ | refine blk_alloc ?_ _)); refine blk_put (cs := #[.int .u64 0, .int .u64 0]) ?_ 0 _ rfl; (with_reducible repeat (first | refine blk_drewN ?_ _ | refine blk_drew ?_ | refine blk_alloc ?_ _)); refine blk_far ?_ NB294_293.out _; (with_reducible repeat (first | refine blk_drewN ?_ _ | refine blk_drew ?_ | refine blk_alloc ?_ _)); refine blk_far ?_ NB294_293.out _; exact kA) Try.underlying28 rfl (by kernel_rfl)) rfl ?_
  exact ⟨by first | rfl | (simp [errW_none, errW_some] <;> rfl) | (simp [*, errW_none, errW_some] <;> rfl), bA⟩
 ·rw [if_neg c2] at H
  have c2b0 : (a0_4 == 0) = false := beq_eq_false_iff_ne.mpr c2
  have c2b1 : (a0_4 != 0) = true := bne_iff_ne.mpr c2
  replace H := Option.bind_eq_some_iff.mp H; obtain ⟨t297, A140, H⟩ := H; replace H : ((backfillref01_Mul.f (IntKind.u64.wrap (t297)) 4294967296).bind fun bt298 => ((backfillref11_G.f a0_0 a0_1 a0_2 a0_3 a0_4 a0_5 a0_6 a0_7).bind fun t301 => ((backfillref01_Mul.f 258048 (IntKind.u64.wrap (t301))).bind fun bt302 => ((backfillref11_C.f a0_0 a0_1 a0_2 a0_3 a0_4 a0_5 a0_6 a0_7).bind fun t305 => ((backfillref01_Of.f (IntKind.u64.wrap (wrap64 (2 * t305)))).bind fun bt306 => ((backfillref01_Add.f bt302.1 bt302.2 bt306.1 bt306.2).bind fun bt308 => ((backfillref01_Times.f bt308.1 bt308.2.1 (IntKind.u64.wrap (a0_4))).bind fun bt311 => ((backfillref01_Add.f bt311.1 bt311.2.1 bt298.1 bt298.2).bind fun bt314 => (some (bt314.1, bt314.2.1, bt298.1, bt298.2)))))))))) = some (r1, r2, r3, r4) := H; have A14 := Aside0.mk A140; clear A140; replace H := Option.bind_eq_some_iff.mp H; obtain ⟨⟨t298, t299⟩, A150, H⟩ := H; replace H : ((backfillref11_G.f a0_0 a0_1 a0_2 a0_3 a0_4 a0_5 a0_6 a0_7).bind fun t301 => ((backfillref01_Mul.f 258048 (IntKind.u64.wrap (t301))).bind fun bt302 => ((backfillref11_C.f a0_0 a0_1 a0_2 a0_3 a0_4 a0_5 a0_6 a0_7).bind fun t305 => ((backfillref01_Of.f (IntKind.u64.wrap (wrap64 (2 * t305)))).bind fun bt306 => ((backfillref01_Add.f bt302.1 bt302.2 bt306.1 bt306.2).bind fun bt308 => ((backfillref01_Times.f bt308.1 bt308.2.1 (IntKind.u64.wrap (a0_4))).bind fun bt311 => ((backfillref01_Add.f bt311.1 bt311.2.1 t298 t299).bind fun bt314 => (some (bt314.1, bt314.2.1, t298, t299))))))))) = some (r1, r2, r3, r4) := H; have A15 := Aside0.mk A150; clear A150; replace H := Option.bind_eq_some_iff.mp H; obtain ⟨t301, A160, H⟩ := H; replace H : ((backfillref01_Mul.f 258048 (IntKind.u64.wrap (t301))).bind fun bt302 => ((backfillref11_C.f a0_0 a0_1 a0_2 a0_3 a0_4 a0_5 a0_6 a0_7).bind fun t305 => ((backfillref01_Of.f (IntKind.u64.wrap (wrap64 (2 * t305)))).bind fun bt306 => ((backfillref01_Add.f bt302.1 bt302.2 bt306.1 bt306.2).bind fun bt308 => ((backfillref01_Times.f bt308.1 bt308.2.1 (IntKind.u64.wrap (a0_4))).bind fun bt311 => ((backfillref01_Add.f bt311.1 bt311.2.1 t298 t299).bind fun bt314 => (some (bt314.1, bt314.2.1, t298, t299)))))))) = some (r1, r2, r3, r4) := H; have A16 := Aside0.mk A160; clear A160; replace H := Option.bind_eq_some_iff.mp H; obtain ⟨⟨t302, t303⟩, A170, H⟩ := H; replace H : ((backfillref11_C.f a0_0 a0_1 a0_2 a0_3 a0_4 a0_5 a0_6 a0_7).bind fun t305 => ((backfillref01_Of.f (IntKind.u64.wrap (wrap64 (2 * t305)))).bind fun bt306 => ((backfillref01_Add.f t302 t303 bt306.1 bt306.2).bind fun bt308 => ((backfillref01_Times.f bt308.1 bt308.2.1 (IntKind.u64.wrap (a0_4))).bind fun bt311 => ((backfillref01_Add.f bt311.1 bt311.2.1 t298 t299).bind fun bt314 => (some (bt314.1, bt314.2.1, t298, t299))))))) = some (r1, r2, r3, r4) := H; have A17 := Aside0.mk A170; clear A170; replace H := Option.bind_eq_some_iff.mp H; obtain ⟨t305, A180, H⟩ := H; replace H : ((backfillref01_Of.f (IntKind.u64.wrap (wrap64 (2 * t305)))).bind fun bt306 => ((backfillref01_Add.f t302 t303 bt306.1 bt306.2).bind fun bt308 => ((backfillref01_Times.f bt308.1 bt308.2.1 (IntKind.u64.wrap (a0_4))).bind fun bt311 => ((backfillref01_Add.f bt311.1 bt311.2.1 t298 t299).bind fun bt314 => (some (bt314.1, bt314.2.1, t298, t299)))))) = some (r1, r2, r3, r4) := H; have A18 := Aside0.mk A180; clear A180; replace H := Option.bind_eq_some_iff.mp H; obtain ⟨⟨t306, t307⟩, A190, H⟩ := H; replace H : ((backfillref01_Add.f t302 t303 t306 t307).bind fun bt308 => ((backfillref01_Times.f bt308.1 bt308.2.1 (IntKind.u64.wrap (a0_4))).bind fun bt311 => ((backfillref01_Add.f bt311.1 bt311.2.1 t298 t299).bind fun bt314 => (some (bt314.1, bt314.2.1, t298, t299))))) = some (r1, r2, r3, r4) := H; have A19 := Aside0.mk A190; clear A190; replace H := Option.bind_eq_some_iff.mp H; obtain ⟨⟨t308, t309, t310⟩, A200, H⟩ := H; replace H : ((backfillref01_Times.f t308 t309 (IntKind.u64.wrap (a0_4))).bind fun bt311 => ((backfillref01_Add.f bt311.1 bt311.2.1 t298 t299).bind fun bt314 => (some (bt314.1, bt314.2.1, t298, t299)))) = some (r1, r2, r3, r4) := H
  have A20 := Aside0.mk A200; clear A200; replace H := Option.bind_eq_some_iff.mp H; obtain ⟨⟨t311, t312, t313⟩, A210, H⟩ := H; replace H : ((backfillref01_Add.f t311 t312 t298 t299).bind fun bt314 => (some (bt314.1, bt314.2.1, t298, t299))) = some (r1, r2, r3, r4) := H; have A21 := Aside0.mk A210; clear A210; replace H := Option.bind_eq_some_iff.mp H; obtain ⟨⟨t314, t315, t316⟩, A220, H⟩ := H; replace H : (some (t314, t315, t298, t299)) = some (r1, r2, r3, r4) := H; have A22 := Aside0.mk A220; clear A220
  simp only [Option.some.injEq, Prod.mk.injEq] at H
  obtain ⟨rfl, rfl, rfl, rfl⟩ := H
  go_enter Try.func72, Try.ntmps72
  try go_wp2_with (first | ((with_reducible refine gate_dst (N := 1) rfl ?_); refine bxA 1 #[.int .i64 a0_0, .int .i64 a0_1, .int .i64 a0_2, .int .i64 a0_3, .int .i64 a0_4, .int .i64 a0_5, .int .i64 a0_6, .int .i64 a0_7] 39 ?_; intro gb292 hg w23 hbox hb; have n0_ := Aside0.mk (below_step bA hb); have n1_ := Aside0.mk (hbox); have n2_ := Aside0.mk (gwA hg bA); have n3_ := Aside0.mk (gwA hg bA); clear HB; have HB := n0_; have BK292 := n1_; have GW292 := n2_; have GE292 := n3_; clear n0_ n1_ n2_ n3_ hb hbox hg) | ((with_reducible refine gate_dst (N := 2) rfl ?_); refine bxA 2 #[.int .u64 0, .int .u64 0] 28 ?_; intro gb293 hg w24 hbox hb; have n0_ := Aside0.mk (blk_below (g := gb292) kA hb); have n1_ := Aside0.mk (below_step bA hb); have n2_ := Aside0.mk (hbox); have n3_ := Aside0.mk (gwA hg bA); have n4_ := Aside0.mk (gwA hg bA); have n5_ := Aside0.mk (neA (g := gb292) hg kA); have n6_ := Aside0.mk (neB (g := gb292) hg kA); clear BK292 HB; have BK292 := n0_; have HB := n1_; have BK293 := n2_; have GW293 := n3_; have GE293 := n4_; have NB292_293 := n5_; have NB293_292 := n6_; clear n0_ n1_ n2_ n3_ n4_ n5_ n6_ hb hbox hg) | ((with_reducible refine gate_dst (N := 3) rfl ?_); refine bxA 3 #[.int .u64 0, .int .u64 0] 28 ?_; intro gb294 hg w25 hbox hb; have n0_ := Aside0.mk (blk_below (g := gb292) kA hb); have n1_ := Aside0.mk (blk_below (g := gb293) kA hb); have n2_ := Aside0.mk (below_step bA hb); have n3_ := Aside0.mk (hbox); have n4_ := Aside0.mk (gwA hg bA); have n5_ := Aside0.mk (gwA hg bA); have n6_ := Aside0.mk (neA (g := gb292) hg kA); have n7_ := Aside0.mk (neB (g := gb292) hg kA); have n8_ := Aside0.mk (neA (g := gb293) hg kA); have n9_ := Aside0.mk (neB (g := gb293) hg kA); clear BK292 BK293 HB; have BK292 := n0_; have BK293 := n1_; have HB := n2_; have BK294 := n3_; have GW294 := n4_; have GE294 := n5_; have NB292_294 := n6_; have NB294_292 := n7_; have NB293_294 := n8_; have NB294_293 := n9_; clear n0_ n1_ n2_ n3_ n4_ n5_ n6_ n7_ n8_ n9_ hb hbox hg; have hnb26 := NB292_293.out; have hnc26 := NB293_292.out; have hnb27 := NB292_294.out; have hnc27 := NB294_292.out; have hcz28_0 : w25.cell? ⟨gb292, 0, none⟩ = some (.int .i64 a0_0) := (blk_cell BK292.out 0).trans rfl; have hcz28_1 : w25.cell? ⟨gb292, 1, none⟩ = some (.int .i64 a0_1) := (blk_cell BK292.out 1).trans rfl; have hcz28_2 : w25.cell? ⟨gb292, 2, none⟩ = some (.int .i64 a0_2) := (blk_cell BK292.out 2).trans rfl; have hcz28_3 : w25.cell? ⟨gb292, 3, none⟩ = some (.int .i64 a0_3) := (blk_cell BK292.out 3).trans rfl; have hcz28_4 : w25.cell? ⟨gb292, 4, none⟩ = some (.int .i64 a0_4) := (blk_cell BK292.out 4).trans rfl; have hcz28_5 : w25.cell? ⟨gb292, 5, none⟩ = some (.int .i64 a0_5) := (blk_cell BK292.out 5).trans rfl; have hcz28_6 : w25.cell? ⟨gb292, 6, none⟩ = some (.int .i64 a0_6) := (blk_cell BK292.out 6).trans rfl; have hcz28_7 : w25.cell? ⟨gb292, 7, none⟩ = some (.int .i64 a0_7) := (blk_cell BK292.out 7).trans rfl; have hfz28_0 := blk_frozen BK292.out 0; have hfz28_1 := blk_frozen BK292.out 1; have hfz28_2 := blk_frozen BK292.out 2; have hfz28_3 := blk_frozen BK292.out 3; have hfz28_4 := blk_frozen BK292.out 4; have hfz28_5 := blk_frozen BK292.out 5; have hfz28_6 := blk_frozen BK292.out 6; have hfz28_7 := blk_frozen BK292.out 7) | ((with_reducible refine gate_callee (f := 85) rfl ?_); refine goesL_ (some 12) rfl rfl Try.func85 (by kernel_rfl) rfl #[.agg #[.int .i64 a0_0, .int .i64 a0_1, .int .i64 a0_2, .int .i64 a0_3, .int .i64 a0_4, .int .i64 a0_5, .int .i64 a0_6, .int .i64 a0_7]] rfl aA ?_; (with_reducible refine (backfillref11_C.calls a0_0 a0_1 a0_2 a0_3 a0_4 a0_5 a0_6 a0_7 t297 _ A14.out).mono ?_); rintro e w29 ⟨rfl, hb⟩; refine ⟨_, rfl, ?_⟩; have n0_ := Aside0.mk (blk_below (g := gb292) kA hb); have n1_ := Aside0.mk (blk_below (g := gb293) kA hb); have n2_ := Aside0.mk (blk_below (g := gb294) kA hb); have n3_ := Aside0.mk (below_step bA hb); clear BK292 BK293 BK294 HB; have BK292 := n0_; have BK293 := n1_; have BK294 := n2_; have HB := n3_; clear n0_ n1_ n2_ n3_; (try clear hb)) | ((with_reducible refine gate_callee (f := 48) rfl ?_); refine goesL_ (some 14) rfl rfl Try.func48 (by kernel_rfl) rfl #[.int .u64 (IntKind.u64.wrap (t297)), .int .u64 4294967296] rfl aA ?_; (with_reducible refine (backfillref01_Mul.calls (IntKind.u64.wrap (t297)) 4294967296 t298 t299 _ A15.out).mono ?_); rintro e w30 ⟨rfl, hb⟩; refine ⟨_, rfl, ?_⟩; have n0_ := Aside0.mk (blk_below (g := gb292) kA hb); have n1_ := Aside0.mk (blk_below (g := gb293) kA hb); have n2_ := Aside0.mk (blk_below (g := gb294) kA hb); have n3_ := Aside0.mk (below_step bA hb); clear BK292 BK293 BK294 HB; have BK292 := n0_; have BK293 := n1_; have BK294 := n2_; have HB := n3_; clear n0_ n1_ n2_ n3_; (try clear hb)) | ((with_reducible refine gate_dst (N := 4) rfl ?_); refine bxA 4 #[.int .u64 0, .int .u64 0] 28 ?_; intro gb300 hg w31 hbox hb; have n0_ := Aside0.mk (blk_below (g := gb292) kA hb); have n1_ := Aside0.mk (blk_below (g := gb293) kA hb); have n2_ := Aside0.mk (blk_below (g := gb294) kA hb); have n3_ := Aside0.mk (below_step bA hb); have n4_ := Aside0.mk (hbox); have n5_ := Aside0.mk (gwA hg bA); have n6_ := Aside0.mk (gwA hg bA); have n7_ := Aside0.mk (neA (g := gb292) hg kA); have n8_ := Aside0.mk (neB (g := gb292) hg kA); have n9_ := Aside0.mk (neA (g := gb293) hg kA); have n10_ := Aside0.mk (neB (g := gb293) hg kA); have n11_ := Aside0.mk (neA (g := gb294) hg kA); have n12_ := Aside0.mk (neB (g := gb294) hg kA); clear BK292 BK293 BK294 HB; have BK292 := n0_; have BK293 := n1_; have BK294 := n2_; have HB := n3_; have BK300 := n4_; have GW300 := n5_; have GE300 := n6_; have NB292_300 := n7_; have NB300_292 := n8_; have NB293_300 := n9_; have NB300_293 := n10_; have NB294_300 := n11_; have NB300_294 := n12_; clear n0_ n1_ n2_ n3_ n4_ n5_ n6_ n7_ n8_ n9_ n10_ n11_ n12_ hb hbox hg; have hnb32 := NB300_292.out; have hnc32 := NB292_300.out; have hnb33 := NB300_293.out; have hnc33 := NB293_300.out; have hnb34 := NB300_294.out; have hnc34 := NB294_300.out; have hcz35_0 : w31.cell? ⟨gb300, 0, none⟩ = some (.int .u64 0) := (blk_cell BK300.out 0).trans rfl; have hcz35_1 : w31.cell? ⟨gb300, 1, none⟩ = some (.int .u64 0) := (blk_cell BK300.out 1).trans rfl; have hfz35_0 := blk_frozen BK300.out 0; have hfz35_1 := blk_frozen BK300.out 1; have hcz36_0 : w31.cell? ⟨gb292, 0, none⟩ = some (.int .i64 a0_0) := (blk_cell BK292.out 0).trans rfl; have hcz36_1 : w31.cell? ⟨gb292, 1, none⟩ = some (.int .i64 a0_1) := (blk_cell BK292.out 1).trans rfl; have hcz36_2 : w31.cell? ⟨gb292, 2, none⟩ = some (.int .i64 a0_2) := (blk_cell BK292.out 2).trans rfl; have hcz36_3 : w31.cell? ⟨gb292, 3, none⟩ = some (.int .i64 a0_3) := (blk_cell BK292.out 3).trans rfl; have hcz36_4 : w31.cell? ⟨gb292, 4, none⟩ = some (.int .i64 a0_4) := (blk_cell BK292.out 4).trans rfl; have hcz36_5 : w31.cell? ⟨gb292, 5, none⟩ = some (.int .i64 a0_5) := (blk_cell BK292.out 5).trans rfl; have hcz36_6 : w31.cell? ⟨gb292, 6, none⟩ = some (.int .i64 a0_6) := (blk_cell BK292.out 6).trans rfl; have hcz36_7 : w31.cell? ⟨gb292, 7, none⟩ = some (.int .i64 a0_7) := (blk_cell BK292.out 7).trans rfl; have hfz36_0 := blk_frozen BK292.out 0; have hfz36_1 := blk_frozen BK292.out 1; have hfz36_2 := blk_frozen BK292.out 2; have hfz36_3 := blk_frozen BK292.out 3; have hfz36_4 := blk_frozen BK292.out 4; have hfz36_5 := blk_frozen BK292.out 5; have hfz36_6 := blk_frozen BK292.out 6; have hfz36_7 := blk_frozen BK292.out 7) | ((with_reducible refine gate_callee (f := 101) rfl ?_); refine goesL_ (some 16) rfl rfl Try.func101 (by kernel_rfl) rfl #[.agg #[.int .i64 a0_0, .int .i64 a0_1, .int .i64 a0_2, .int .i64 a0_3, .int .i64 a0_4, .int .i64 a0_5, .int .i64 a0_6, .int .i64 a0_7]] rfl aA ?_; (with_reducible refine (backfillref11_G.calls a0_0 a0_1 a0_2 a0_3 a0_4 a0_5 a0_6 a0_7 t301 _ A16.out).mono ?_); rintro e w37 ⟨rfl, hb⟩; refine ⟨_, rfl, ?_⟩; have n0_ := Aside0.mk (blk_below (g := gb292) (o := .cells #[.int .i64 a0_0, .int .i64 a0_1, .int .i64 a0_2, .int .i64 a0_3, .int .i64 a0_4, .int .i64 a0_5, .int .i64 a0_6, .int .i64 a0_7] 39 (0, 0)) (by (with_reducible repeat (first | refine blk_drewN ?_ _ | refine blk_drew ?_ | refine blk_alloc ?_ _)); refine blk_far ?_ NB292_300.out _; (with_reducible repeat (first | refine blk_drewN ?_ _ | refine blk_drew ?_ | refine blk_alloc ?_ _)); refine blk_far ?_ NB292_300.out _; exact kA) hb); have n1_ := Aside0.mk (blk_below (g := gb293) (o := .cells #[.int .u64 0, .int .u64 0] 28 (0, 0)) (by (with_reducible repeat (first | refine blk_drewN ?_ _ | refine blk_drew ?_ | refine blk_alloc ?_ _)); refine blk_far ?_ NB293_300.out _; (with_reducible repeat (first | refine blk_drewN ?_ _ | refine blk_drew ?_ | refine blk_alloc ?_ _)); refine blk_far ?_ NB293_300.out _; exact kA) hb); have n2_ := Aside0.mk (blk_below (g := gb294) (o := .cells #[.int .u64 0, .int .u64 0] 28 (0, 0)) (by (with_reducible repeat (first | refine blk_drewN ?_ _ | refine blk_drew ?_ | refine blk_alloc ?_ _)); refine blk_far ?_ NB294_300.out _; (with_reducible repeat (first | refine blk_drewN ?_ _ | refine blk_drew ?_ | refine blk_alloc ?_ _)); refine blk_far ?_ NB294_300.out _; exact kA) hb); have n3_ := Aside0.mk (blk_below (g := gb300) (o := .cells #[.int .u64 t298, .int .u64 t299] 28 (0, 0)) (by (with_reducible repeat (first | refine blk_drewN ?_ _ | refine blk_drew ?_ | refine blk_alloc ?_ _)); refine blk_put (cs := #[.int .u64 t298, .int .u64 0]) ?_ 1 _ rfl; (with_reducible repeat (first | refine blk_drewN ?_ _ | refine blk_drew ?_ | refine blk_alloc ?_ _)); refine blk_put (cs := #[.int .u64 0, .int .u64 0]) ?_ 0 _ rfl; exact kA) hb); have n4_ := Aside0.mk (below_step bA hb); clear BK292 BK293 BK294 BK300 HB; have BK292 := n0_; have BK293 := n1_; have BK294 := n2_; have BK300 := n3_; have HB := n4_; clear n0_ n1_ n2_ n3_ n4_; (try clear hb)) | ((with_reducible refine gate_callee (f := 48) rfl ?_); refine goesL_ (some 18) rfl rfl Try.func48 (by kernel_rfl) rfl #[.int .u64 258048, .int .u64 (IntKind.u64.wrap (t301))] rfl aA ?_; (with_reducible refine (backfillref01_Mul.calls 258048 (IntKind.u64.wrap (t301)) t302 t303 _ A17.out).mono ?_); rintro e w38 ⟨rfl, hb⟩; refine ⟨_, rfl, ?_⟩; have n0_ := Aside0.mk (blk_below (g := gb292) kA hb); have n1_ := Aside0.mk (blk_below (g := gb293) kA hb); have n2_ := Aside0.mk (blk_below (g := gb294) kA hb); have n3_ := Aside0.mk (blk_below (g := gb300) kA hb); have n4_ := Aside0.mk (below_step bA hb); clear BK292 BK293 BK294 BK300 HB; have BK292 := n0_; have BK293 := n1_; have BK294 := n2_; have BK300 := n3_; have HB := n4_; clear n0_ n1_ n2_ n3_ n4_; (try clear hb)) | ((with_reducible refine gate_dst (N := 5) rfl ?_); refine bxA 5 #[.int .u64 0, .int .u64 0] 28 ?_; intro gb304 hg w39 hbox hb; have n0_ := Aside0.mk (blk_below (g := gb292) kA hb); have n1_ := Aside0.mk (blk_below (g := gb293) kA hb); have n2_ := Aside0.mk (blk_below (g := gb294) kA hb); have n3_ := Aside0.mk (blk_below (g := gb300) kA hb); have n4_ := Aside0.mk (below_step bA hb); have n5_ := Aside0.mk (hbox); have n6_ := Aside0.mk (gwA hg bA); have n7_ := Aside0.mk (gwA hg bA); have n8_ := Aside0.mk (neA (g := gb292) hg kA); have n9_ := Aside0.mk (neB (g := gb292) hg kA); have n10_ := Aside0.mk (neA (g := gb293) hg kA); have n11_ := Aside0.mk (neB (g := gb293) hg kA); have n12_ := Aside0.mk (neA (g := gb294) hg kA); have n13_ := Aside0.mk (neB (g := gb294) hg kA); have n14_ := Aside0.mk (neA (g := gb300) hg kA); have n15_ := Aside0.mk (neB (g := gb300) hg kA); clear BK292 BK293 BK294 BK300 HB; have BK292 := n0_; have BK293 := n1_; have BK294 := n2_; have BK300 := n3_; have HB := n4_; have BK304 := n5_; have GW304 := n6_; have GE304 := n7_; have NB292_304 := n8_; have NB304_292 := n9_; have NB293_304 := n10_; have NB304_293 := n11_; have NB294_304 := n12_; have NB304_294 := n13_; have NB300_304 := n14_; have NB304_300 := n15_; clear n0_ n1_ n2_ n3_ n4_ n5_ n6_ n7_ n8_ n9_ n10_ n11_ n12_ n13_ n14_ n15_ hb hbox hg; have hnb40 := NB304_292.out; have hnc40 := NB292_304.out; have hnb41 := NB304_293.out; have hnc41 := NB293_304.out; have hnb42 := NB304_294.out; have hnc42 := NB294_304.out; have hnb43 := NB304_300.out; have hnc43 := NB300_304.out; have hcz44_0 : w39.cell? ⟨gb304, 0, none⟩ = some (.int .u64 0) := (blk_cell BK304.out 0).trans rfl; have hcz44_1 : w39.cell? ⟨gb304, 1, none⟩ = some (.int .u64 0) := (blk_cell BK304.out 1).trans rfl; have hfz44_0 := blk_frozen BK304.out 0; have hfz44_1 := blk_frozen BK304.out 1))
  have n0_ : Aside0 (((w39.setCell ⟨gb304, 0, none⟩ (.int .u64 t302)).setCell ⟨gb304, 1, none⟩ (.int .u64 t303)).heap[gb292]? = some (.cells #[.int .i64 a0_0, .int .i64 a0_1, .int .i64 a0_2, .int .i64 a0_3, .int .i64 a0_4, .int .i64 a0_5, .int .i64 a0_6, .int .i64 a0_7] 39 (0, 0))) := ⟨by (with_reducible repeat (first | refine blk_drewN ?_ _ | refine blk_drew ?_ | refine blk_alloc ?_ _)); refine blk_far ?_ NB292_304.out _; (with_reducible repeat (first | refine blk_drewN ?_ _ | refine blk_drew ?_ | refine blk_alloc ?_ _)); refine blk_far ?_ NB292_304.out _; exact kA⟩
  have n1_ : Aside0 (((w39.setCell ⟨gb304, 0, none⟩ (.int .u64 t302)).setCell ⟨gb304, 1, none⟩ (.int .u64 t303)).heap[gb293]? = some (.cells #[.int .u64 0, .int .u64 0] 28 (0, 0))) := ⟨by (with_reducible repeat (first | refine blk_drewN ?_ _ | refine blk_drew ?_ | refine blk_alloc ?_ _)); refine blk_far ?_ NB293_304.out _; (with_reducible repeat (first | refine blk_drewN ?_ _ | refine blk_drew ?_ | refine blk_alloc ?_ _)); refine blk_far ?_ NB293_304.out _; exact kA⟩
  have n2_ : Aside0 (((w39.setCell ⟨gb304, 0, none⟩ (.int .u64 t302)).setCell ⟨gb304, 1, none⟩ (.int .u64 t303)).heap[gb294]? = some (.cells #[.int .u64 0, .int .u64 0] 28 (0, 0))) := ⟨by (with_reducible repeat (first | refine blk_drewN ?_ _ | refine blk_drew ?_ | refine blk_alloc ?_ _)); refine blk_far ?_ NB294_304.out _; (with_reducible repeat (first | refine blk_drewN ?_ _ | refine blk_drew ?_ | refine blk_alloc ?_ _)); refine blk_far ?_ NB294_304.out _; exact kA⟩
  have n3_ : Aside0 (((w39.setCell ⟨gb304, 0, none⟩ (.int .u64 t302)).setCell ⟨gb304, 1, none⟩ (.int .u64 t303)).heap[gb300]? = some (.cells #[.int .u64 t298, .int .u64 t299] 28 (0, 0))) := ⟨by (with_reducible repeat (first | refine blk_drewN ?_ _ | refine blk_drew ?_ | refine blk_alloc ?_ _)); refine blk_far ?_ NB300_304.out _; (with_reducible repeat (first | refine blk_drewN ?_ _ | refine blk_drew ?_ | refine blk_alloc ?_ _)); refine blk_far ?_ NB300_304.out _; exact kA⟩
  have n4_ : Aside0 (((w39.setCell ⟨gb304, 0, none⟩ (.int .u64 t302)).setCell ⟨gb304, 1, none⟩ (.int .u64 t303)).heap[gb304]? = some (.cells #[.int .u64 t302, .int .u64 t303] 28 (0, 0))) := ⟨by (with_reducible repeat (first | refine blk_drewN ?_ _ | refine blk_drew ?_ | refine blk_alloc ?_ _)); refine blk_put (cs := #[.int .u64 t302, .int .u64 0]) ?_ 1 _ rfl; (with_reducible repeat (first | refine blk_drewN ?_ _ | refine blk_drew ?_ | refine blk_alloc ?_ _)); refine blk_put (cs := #[.int .u64 0, .int .u64 0]) ?_ 0 _ rfl; exact kA⟩
  have n5_ : Aside0 (Below w.heap.size w ((w39.setCell ⟨gb304, 0, none⟩ (.int .u64 t302)).setCell ⟨gb304, 1, none⟩ (.int .u64 t303))) := ⟨bA⟩
  (try clear BK292); (try clear BK293); (try clear BK294); (try clear BK300); (try clear BK304); (try clear HB)
  generalize ((w39.setCell ⟨gb304, 0, none⟩ (.int .u64 t302)).setCell ⟨gb304, 1, none⟩ (.int .u64 t303)) = w45 at n0_ n1_ n2_ n3_ n4_ n5_ ⊢
  have BK292 := n0_; have BK293 := n1_; have BK294 := n2_; have BK300 := n3_; have BK304 := n4_; have HB := n5_; clear n0_ n1_ n2_ n3_ n4_ n5_; have n0_ := Aside0.mk (blk_drew BK292.out); have n1_ := Aside0.mk (blk_drew BK293.out); have n2_ := Aside0.mk (blk_drew BK294.out); have n3_ := Aside0.mk (blk_drew BK300.out); have n4_ := Aside0.mk (blk_drew BK304.out); have n5_ := Aside0.mk (below_drew1 HB.out); clear BK292 BK293 BK294 BK300 BK304 HB; have BK292 := n0_; have BK293 := n1_; have BK294 := n2_; have BK300 := n3_; have BK304 := n4_; have HB := n5_; clear n0_ n1_ n2_ n3_ n4_ n5_
  refine start_ (n := 11) (S := fun w' => w'.cell? ⟨gb304, 0, none⟩ = some (.int .u64 t302) ∧ w'.cell? ⟨gb304, 1, none⟩ = some (.int .u64 t303) ∧ w'.cell? ⟨gb292, 0, none⟩ = some (.int .i64 a0_0) ∧ w'.cell? ⟨gb292, 1, none⟩ = some (.int .i64 a0_1) ∧ w'.cell? ⟨gb292, 2, none⟩ = some (.int .i64 a0_2) ∧ w'.cell? ⟨gb292, 3, none⟩ = some (.int .i64 a0_3) ∧ w'.cell? ⟨gb292, 4, none⟩ = some (.int .i64 a0_4) ∧ w'.cell? ⟨gb292, 5, none⟩ = some (.int .i64 a0_5) ∧ w'.cell? ⟨gb292, 6, none⟩ = some (.int .i64 a0_6) ∧ w'.cell? ⟨gb292, 7, none⟩ = some (.int .i64 a0_7)) (ds := [10]) #[false, false, false, false, false, false, false, false, false, false, false] (by kernel_rfl) rfl rfl ⟨(blk_cell BK304.out 0).trans rfl, (blk_cell BK304.out 1).trans rfl, (blk_cell BK292.out 0).trans rfl, (blk_cell BK292.out 1).trans rfl, (blk_cell BK292.out 2).trans rfl, (blk_cell BK292.out 3).trans rfl, (blk_cell BK292.out 4).trans rfl, (blk_cell BK292.out 5).trans rfl, (blk_cell BK292.out 6).trans rfl, (blk_cell BK292.out 7).trans rfl⟩ (fun hHeld => ?_); refine with_tabW backfillref11_off.tab5 backfillref11_off.bits5 (fun HT_ HW_ => ?_)
  generalize w45.drew = w46 at BK292 BK293 BK294 BK300 BK304 HB hHeld ⊢
  refine take_ (i := 0) (N := some 20) (v := ?_) (a' := ?_) #[true, false, false, false, false, false, false, false, false, false, false] rfl rfl (take_ofW HT_.out HW_.out (by kernel_rfl)) (fun _ _ _ h => h) (Or.inl ⟨by rfl, ?_⟩) hHeld ?_ ?_
  rotate_left
  ·rintro w' ⟨s0, s1, s2, s3, s4, s5, s6, s7, s8, s9⟩
   go_simp; with_reducible rfl
  rotate_left
  ·simp only [Act.put, List.setIfInBounds_toArray, List.set_cons_zero, List.set_cons_succ, i64_w, i32_w]
   rfl
  refine take_ (i := 1) (N := some 21) (v := ?_) (a' := ?_) #[true, true, false, false, false, false, false, false, false, false, false] rfl rfl (take_ofW HT_.out HW_.out (by kernel_rfl)) (fun _ _ _ h => h) (Or.inl ⟨by rfl, ?_⟩) hHeld ?_ ?_
  rotate_left
  ·rintro w' ⟨s0, s1, s2, s3, s4, s5, s6, s7, s8, s9⟩
   go_simp; with_reducible rfl
  rotate_left
  ·simp only [Act.put, List.setIfInBounds_toArray, List.set_cons_zero, List.set_cons_succ, i64_w, i32_w]
   rfl
  refine one_ (i := 2) (N := some 22) #[true, true, true, false, false, false, false, false, false, false, false] rfl rfl (one_of HT_.out (by kernel_rfl)) (by decide) (fun K hK => ?_)
  refine goes_ Try.func85 (by kernel_rfl) rfl #[.agg #[.int .i64 a0_0, .int .i64 a0_1, .int .i64 a0_2, .int .i64 a0_3, .int .i64 a0_4, .int .i64 a0_5, .int .i64 a0_6, .int .i64 a0_7]] (by rfl) rfl rfl aA ?_
  with_reducible refine (backfillref11_C.calls a0_0 a0_1 a0_2 a0_3 a0_4 a0_5 a0_6 a0_7 t305 _ A18.out).mono ?_
  rintro e w47 ⟨rfl, hb⟩
  refine ⟨_, rfl, ?_⟩; have n0_ := Aside0.mk (blk_below (g := gb292) kA hb); have n1_ := Aside0.mk (blk_below (g := gb293) kA hb); have n2_ := Aside0.mk (blk_below (g := gb294) kA hb); have n3_ := Aside0.mk (blk_below (g := gb300) kA hb); have n4_ := Aside0.mk (blk_below (g := gb304) kA hb); have n5_ := Aside0.mk (below_step bA hb); clear BK292 BK293 BK294 BK300 BK304 HB; have BK292 := n0_; have BK293 := n1_; have BK294 := n2_; have BK300 := n3_; have BK304 := n4_; have HB := n5_; clear n0_ n1_ n2_ n3_ n4_ n5_; (try clear hb)
  refine hK.out _ _ ⟨(blk_cell BK304.out 0).trans rfl, (blk_cell BK304.out 1).trans rfl, (blk_cell BK292.out 0).trans rfl, (blk_cell BK292.out 1).trans rfl, (blk_cell BK292.out 2).trans rfl, (blk_cell BK292.out 3).trans rfl, (blk_cell BK292.out 4).trans rfl, (blk_cell BK292.out 5).trans rfl, (blk_cell BK292.out 6).trans rfl, (blk_cell BK292.out 7).trans rfl⟩ (fun hHeld => ?_)
  clear hK K
  refine norm_ (a' := ?_) ?_ ?_
  rotate_left
  ·show Act.put _ (some 22) _ = _
   simp only [Act.put, List.setIfInBounds_toArray, List.set_cons_zero, List.set_cons_succ, i64_w, i32_w]
   rfl
  refine pure_ (i := 3) (N := some 23) (v := ?_) (a' := ?_) #[true, true, true, true, false, false, false, false, false, false, false] rfl rfl (any_of HT_.out (by kernel_rfl)) (fun _ _ _ h => h) (Or.inl ⟨by rfl, ?_⟩) ?_ ?_
  rotate_left
  ·intro w'
   go_simp; with_reducible rfl
  rotate_left
  ·simp only [Act.put, List.setIfInBounds_toArray, List.set_cons_zero, List.set_cons_succ, i64_w, i32_w]
   rfl
  refine pure_ (i := 4) (N := some 24) (v := ?_) (a' := ?_) #[true, true, true, true, true, false, false, false, false, false, false] rfl rfl (any_of HT_.out (by kernel_rfl)) (fun _ _ _ h => h) (Or.inl ⟨by rfl, ?_⟩) ?_ ?_
  rotate_left
  ·intro w'
   go_simp; with_reducible rfl
  rotate_left
  ·simp only [Act.put, List.setIfInBounds_toArray, List.set_cons_zero, List.set_cons_succ, i64_w, i32_w]
   rfl
  refine one_ (i := 5) (N := some 25) #[true, true, true, true, true, true, false, false, false, false, false] rfl rfl (one_of HT_.out (by kernel_rfl)) (by decide) (fun K hK => ?_)
  refine goes_ Try.func93 (by kernel_rfl) rfl #[.int .u64 (IntKind.u64.wrap (wrap64 (2 * t305)))] (by rfl) rfl rfl aA ?_
  with_reducible refine (backfillref01_Of.calls (IntKind.u64.wrap (wrap64 (2 * t305))) t306 t307 _ A19.out).mono ?_
  rintro e w48 ⟨rfl, hb⟩
  refine ⟨_, rfl, ?_⟩; have n0_ := Aside0.mk (blk_below (g := gb292) kA hb); have n1_ := Aside0.mk (blk_below (g := gb293) kA hb); have n2_ := Aside0.mk (blk_below (g := gb294) kA hb); have n3_ := Aside0.mk (blk_below (g := gb300) kA hb); have n4_ := Aside0.mk (blk_below (g := gb304) kA hb); have n5_ := Aside0.mk (below_step bA hb); clear BK292 BK293 BK294 BK300 BK304 HB; have BK292 := n0_; have BK293 := n1_; have BK294 := n2_; have BK300 := n3_; have BK304 := n4_; have HB := n5_; clear n0_ n1_ n2_ n3_ n4_ n5_; (try clear hb)
  refine hK.out _ _ ⟨(blk_cell BK304.out 0).trans rfl, (blk_cell BK304.out 1).trans rfl, (blk_cell BK292.out 0).trans rfl, (blk_cell BK292.out 1).trans rfl, (blk_cell BK292.out 2).trans rfl, (blk_cell BK292.out 3).trans rfl, (blk_cell BK292.out 4).trans rfl, (blk_cell BK292.out 5).trans rfl, (blk_cell BK292.out 6).trans rfl, (blk_cell BK292.out 7).trans rfl⟩ (fun hHeld => ?_)
  clear hK K
  refine norm_ (a' := ?_) ?_ ?_
  rotate_left
  ·show Act.put _ (some 25) _ = _
   simp only [Act.put, List.setIfInBounds_toArray, List.set_cons_zero, List.set_cons_succ, i64_w, i32_w]
   rfl
  refine one_ (i := 6) (N := some 26) #[true, true, true, true, true, true, true, false, false, false, false] rfl rfl (one_of HT_.out (by kernel_rfl)) (by decide) (fun K hK => ?_)
  refine goes_ Try.func43 (by kernel_rfl) rfl #[.agg #[.int .u64 t302, .int .u64 t303], .agg #[.int .u64 t306, .int .u64 t307]] (by rfl) rfl rfl aA ?_
  with_reducible refine (backfillref01_Add.calls t302 t303 t306 t307 t308 t309 t310 _ A20.out).mono ?_
  rintro e w49 ⟨rfl, hb⟩
  refine ⟨_, rfl, ?_⟩; have n0_ := Aside0.mk (blk_below (g := gb292) kA hb); have n1_ := Aside0.mk (blk_below (g := gb293) kA hb); have n2_ := Aside0.mk (blk_below (g := gb294) kA hb); have n3_ := Aside0.mk (blk_below (g := gb300) kA hb); have n4_ := Aside0.mk (blk_below (g := gb304) kA hb); have n5_ := Aside0.mk (below_step bA hb); clear BK292 BK293 BK294 BK300 BK304 HB; have BK292 := n0_; have BK293 := n1_; have BK294 := n2_; have BK300 := n3_; have BK304 := n4_; have HB := n5_; clear n0_ n1_ n2_ n3_ n4_ n5_; (try clear hb)
  refine hK.out _ _ ⟨(blk_cell BK304.out 0).trans rfl, (blk_cell BK304.out 1).trans rfl, (blk_cell BK292.out 0).trans rfl, (blk_cell BK292.out 1).trans rfl, (blk_cell BK292.out 2).trans rfl, (blk_cell BK292.out 3).trans rfl, (blk_cell BK292.out 4).trans rfl, (blk_cell BK292.out 5).trans rfl, (blk_cell BK292.out 6).trans rfl, (blk_cell BK292.out 7).trans rfl⟩ (fun hHeld => ?_)
  clear hK K
  refine norm_ (a' := ?_) ?_ ?_
  rotate_left
  ·show Act.put _ (some 26) _ = _
   simp only [Act.put, List.setIfInBounds_toArray, List.set_cons_zero, List.set_cons_succ, i64_w, i32_w]
   rfl
  refine pure_ (i := 7) (N := some 19) (v := ?_) (a' := ?_) #[true, true, true, true, true, true, true, true, false, false, false] rfl rfl (any_of HT_.out (by kernel_rfl)) (fun _ _ _ h => h) (Or.inl ⟨by rfl, ?_⟩) ?_ ?_
  rotate_left
  ·intro w'
   go_simp; with_reducible rfl
  rotate_left
  ·simp only [Act.put, List.setIfInBounds_toArray, List.set_cons_zero, List.set_cons_succ, i64_w, i32_w]
   rfl
  refine pure_ (i := 8) (N := some 27) (v := ?_) (a' := ?_) #[true, true, true, true, true, true, true, true, true, false, false] rfl rfl (any_of HT_.out (by kernel_rfl)) (fun _ _ _ h => h) (Or.inl ⟨by rfl, ?_⟩) ?_ ?_
  rotate_left
  ·intro w'
   go_simp; with_reducible rfl
  rotate_left
  ·simp only [Act.put, List.setIfInBounds_toArray, List.set_cons_zero, List.set_cons_succ, i64_w, i32_w]
   rfl
  refine pure_ (i := 9) (N := some 28) (v := ?_) (a' := ?_) #[true, true, true, true, true, true, true, true, true, true, false] rfl rfl (any_of HT_.out (by kernel_rfl)) (fun _ _ _ h => h) (Or.inl ⟨by rfl, ?_⟩) ?_ ?_
  rotate_left
  ·intro w'
   go_simp; with_reducible rfl
  rotate_left
  ·simp only [Act.put, List.setIfInBounds_toArray, List.set_cons_zero, List.set_cons_succ, i64_w, i32_w]
   rfl
  refine last_ (i := 10) (N := none) #[true, true, true, true, true, true, true, true, true, true, true] rfl rfl (one_of HT_.out (by kernel_rfl)) (by decide) (fun K hK => ?_)
  have hs50 : w49.cell? ⟨gb304, 0, none⟩ = some (.int .u64 t302) := (blk_cell BK304.out 0).trans rfl
  have hfs50 := blk_frozen BK304.out 0
  have hns50_0 := NB292_304.out
  have hns50_1 := NB293_304.out
  have hns50_2 := NB294_304.out
  have hns50_3 := NB300_304.out
  have hms50_0 := NB304_292.out
  have hms50_1 := NB304_293.out
  have hms50_2 := NB304_294.out
  have hms50_3 := NB304_300.out
  have hs51 : w49.cell? ⟨gb304, 1, none⟩ = some (.int .u64 t303) := (blk_cell BK304.out 1).trans rfl
  have hfs51 := blk_frozen BK304.out 1
  have hns51_0 := NB292_304.out
  have hns51_1 := NB293_304.out
  have hns51_2 := NB294_304.out
  have hns51_3 := NB300_304.out
  have hms51_0 := NB304_292.out
  have hms51_1 := NB304_293.out
  have hms51_2 := NB304_294.out
  have hms51_3 := NB304_300.out
  refine skip_ (w1 := ?_) (by rfl) rfl ?_ ?_
  rotate_left
  ·go_simp
   rfl
  refine hK.out _ _ ?_
  clear hK K
  refine done_ (done_of HT_.out (by kernel_rfl)) ?_
  have hcz52_0 : w49.cell? ⟨gb304, 0, none⟩ = some (.int .u64 t302) := (blk_cell BK304.out 0).trans rfl
  have hcz52_1 : w49.cell? ⟨gb304, 1, none⟩ = some (.int .u64 t303) := (blk_cell BK304.out 1).trans rfl
  have hfz52_0 := blk_frozen BK304.out 0
  have hfz52_1 := blk_frozen BK304.out 1
  have hcz53_0 : w49.cell? ⟨gb292, 0, none⟩ = some (.int .i64 a0_0) := (blk_cell BK292.out 0).trans rfl
  have hcz53_1 : w49.cell? ⟨gb292, 1, none⟩ = some (.int .i64 a0_1) := (blk_cell BK292.out 1).trans rfl
  have hcz53_2 : w49.cell? ⟨gb292, 2, none⟩ = some (.int .i64 a0_2) := (blk_cell BK292.out 2).trans rfl
  have hcz53_3 : w49.cell? ⟨gb292, 3, none⟩ = some (.int .i64 a0_3) := (blk_cell BK292.out 3).trans rfl
  have hcz53_4 : w49.cell? ⟨gb292, 4, none⟩ = some (.int .i64 a0_4) := (blk_cell BK292.out 4).trans rfl
  have hcz53_5 : w49.cell? ⟨gb292, 5, none⟩ = some (.int .i64 a0_5) := (blk_cell BK292.out 5).trans rfl
  have hcz53_6 : w49.cell? ⟨gb292, 6, none⟩ = some (.int .i64 a0_6) := (blk_cell BK292.out 6).trans rfl
  have hcz53_7 : w49.cell? ⟨gb292, 7, none⟩ = some (.int .i64 a0_7) := (blk_cell BK292.out 7).trans rfl
  have hfz53_0 := blk_frozen BK292.out 0
  have hfz53_1 := blk_frozen BK292.out 1
  have hfz53_2 := blk_frozen BK292.out 2
  have hfz53_3 := blk_frozen BK292.out 3
  have hfz53_4 := blk_frozen BK292.out 4
  have hfz53_5 := blk_frozen BK292.out 5
  have hfz53_6 := blk_frozen BK292.out 6
  have hfz53_7 := blk_frozen BK292.out 7
  try go_wp2_with (first | ((with_reducible refine gate_callee (f := 38) rfl ?_); refine goesL_ (some 34) rfl rfl Try.func38 (by kernel_rfl) rfl #[.agg #[.int .u64 t308, .int .u64 t309], .int .u64 (IntKind.u64.wrap (a0_4))] rfl aA ?_; (with_reducible refine (backfillref01_Times.calls t308 t309 (IntKind.u64.wrap (a0_4)) t311 t312 t313 _ A21.out).mono ?_); rintro e w54 ⟨rfl, hb⟩; refine ⟨_, rfl, ?_⟩; have n0_ := Aside0.mk (blk_below (g := gb292) (o := .cells #[.int .i64 a0_0, .int .i64 a0_1, .int .i64 a0_2, .int .i64 a0_3, .int .i64 a0_4, .int .i64 a0_5, .int .i64 a0_6, .int .i64 a0_7] 39 (0, 0)) (by (with_reducible repeat (first | refine blk_drewN ?_ _ | refine blk_drew ?_ | refine blk_alloc ?_ _)); refine blk_far ?_ NB292_304.out _; (with_reducible repeat (first | refine blk_drewN ?_ _ | refine blk_drew ?_ | refine blk_alloc ?_ _)); refine blk_far ?_ NB292_304.out _; exact kA) hb); have n1_ := Aside0.mk (blk_below (g := gb293) (o := .cells #[.int .u64 0, .int .u64 0] 28 (0, 0)) (by (with_reducible repeat (first | refine blk_drewN ?_ _ | refine blk_drew ?_ | refine blk_alloc ?_ _)); refine blk_far ?_ NB293_304.out _; (with_reducible repeat (first | refine blk_drewN ?_ _ | refine blk_drew ?_ | refine blk_alloc ?_ _)); refine blk_far ?_ NB293_304.out _; exact kA) hb); have n2_ := Aside0.mk (blk_below (g := gb294) (o := .cells #[.int .u64 0, .int .u64 0] 28 (0, 0)) (by (with_reducible repeat (first | refine blk_drewN ?_ _ | refine blk_drew ?_ | refine blk_alloc ?_ _)); refine blk_far ?_ NB294_304.out _; (with_reducible repeat (first | refine blk_drewN ?_ _ | refine blk_drew ?_ | refine blk_alloc ?_ _)); refine blk_far ?_ NB294_304.out _; exact kA) hb); have n3_ := Aside0.mk (blk_below (g := gb300) (o := .cells #[.int .u64 t298, .int .u64 t299] 28 (0, 0)) (by (with_reducible repeat (first | refine blk_drewN ?_ _ | refine blk_drew ?_ | refine blk_alloc ?_ _)); refine blk_far ?_ NB300_304.out _; (with_reducible repeat (first | refine blk_drewN ?_ _ | refine blk_drew ?_ | refine blk_alloc ?_ _)); refine blk_far ?_ NB300_304.out _; exact kA) hb); have n4_ := Aside0.mk (blk_below (g := gb304) (o := .cells #[.int .u64 t308, .int .u64 t309] 28 (0, 0)) (by (with_reducible repeat (first | refine blk_drewN ?_ _ | refine blk_drew ?_ | refine blk_alloc ?_ _)); refine blk_put (cs := #[.int .u64 t308, .int .u64 t303]) ?_ 1 _ rfl; (with_reducible repeat (first | refine blk_drewN ?_ _ | refine blk_drew ?_ | refine blk_alloc ?_ _)); refine blk_put (cs := #[.int .u64 t302, .int .u64 t303]) ?_ 0 _ rfl; exact kA) hb); have n5_ := Aside0.mk (below_step bA hb); clear BK292 BK293 BK294 BK300 BK304 HB; have BK292 := n0_; have BK293 := n1_; have BK294 := n2_; have BK300 := n3_; have BK304 := n4_; have HB := n5_; clear n0_ n1_ n2_ n3_ n4_ n5_; (try clear hb); have hcz55_0 : w54.cell? ⟨gb304, 0, none⟩ = some (.int .u64 t308) := (blk_cell BK304.out 0).trans rfl; have hcz55_1 : w54.cell? ⟨gb304, 1, none⟩ = some (.int .u64 t309) := (blk_cell BK304.out 1).trans rfl; have hfz55_0 := blk_frozen BK304.out 0; have hfz55_1 := blk_frozen BK304.out 1; have hcz56_0 : w54.cell? ⟨gb300, 0, none⟩ = some (.int .u64 t298) := (blk_cell BK300.out 0).trans rfl; have hcz56_1 : w54.cell? ⟨gb300, 1, none⟩ = some (.int .u64 t299) := (blk_cell BK300.out 1).trans rfl; have hfz56_0 := blk_frozen BK300.out 0; have hfz56_1 := blk_frozen BK300.out 1) | ((with_reducible refine gate_callee (f := 43) rfl ?_); refine goesL_ (some 40) rfl rfl Try.func43 (by kernel_rfl) rfl #[.agg #[.int .u64 t311, .int .u64 t312], .agg #[.int .u64 t298, .int .u64 t299]] rfl aA ?_; (with_reducible refine (backfillref01_Add.calls t311 t312 t298 t299 t314 t315 t316 _ A22.out).mono ?_); rintro e w57 ⟨rfl, hb⟩; refine ⟨_, rfl, ?_⟩; have n0_ := Aside0.mk (blk_below (g := gb292) (o := .cells #[.int .i64 a0_0, .int .i64 a0_1, .int .i64 a0_2, .int .i64 a0_3, .int .i64 a0_4, .int .i64 a0_5, .int .i64 a0_6, .int .i64 a0_7] 39 (0, 0)) (by (with_reducible repeat (first | refine blk_drewN ?_ _ | refine blk_drew ?_ | refine blk_alloc ?_ _)); refine blk_far ?_ NB292_304.out _; (with_reducible repeat (first | refine blk_drewN ?_ _ | refine blk_drew ?_ | refine blk_alloc ?_ _)); refine blk_far ?_ NB292_304.out _; exact kA) hb); have n1_ := Aside0.mk (blk_below (g := gb293) (o := .cells #[.int .u64 0, .int .u64 0] 28 (0, 0)) (by (with_reducible repeat (first | refine blk_drewN ?_ _ | refine blk_drew ?_ | refine blk_alloc ?_ _)); refine blk_far ?_ NB293_304.out _; (with_reducible repeat (first | refine blk_drewN ?_ _ | refine blk_drew ?_ | refine blk_alloc ?_ _)); refine blk_far ?_ NB293_304.out _; exact kA) hb); have n2_ := Aside0.mk (blk_below (g := gb294) (o := .cells #[.int .u64 0, .int .u64 0] 28 (0, 0)) (by (with_reducible repeat (first | refine blk_drewN ?_ _ | refine blk_drew ?_ | refine blk_alloc ?_ _)); refine blk_far ?_ NB294_304.out _; (with_reducible repeat (first | refine blk_drewN ?_ _ | refine blk_drew ?_ | refine blk_alloc ?_ _)); refine blk_far ?_ NB294_304.out _; exact kA) hb); have n3_ := Aside0.mk (blk_below (g := gb300) (o := .cells #[.int .u64 t298, .int .u64 t299] 28 (0, 0)) (by (with_reducible repeat (first | refine blk_drewN ?_ _ | refine blk_drew ?_ | refine blk_alloc ?_ _)); refine blk_far ?_ NB300_304.out _; (with_reducible repeat (first | refine blk_drewN ?_ _ | refine blk_drew ?_ | refine blk_alloc ?_ _)); refine blk_far ?_ NB300_304.out _; exact kA) hb); have n4_ := Aside0.mk (blk_below (g := gb304) (o := .cells #[.int .u64 t311, .int .u64 t312] 28 (0, 0)) (by (with_reducible repeat (first | refine blk_drewN ?_ _ | refine blk_drew ?_ | refine blk_alloc ?_ _)); refine blk_put (cs := #[.int .u64 t311, .int .u64 t309]) ?_ 1 _ rfl; (with_reducible repeat (first | refine blk_drewN ?_ _ | refine blk_drew ?_ | refine blk_alloc ?_ _)); refine blk_put (cs := #[.int .u64 t308, .int .u64 t309]) ?_ 0 _ rfl; exact kA) hb); have n5_ := Aside0.mk (below_step bA hb); clear BK292 BK293 BK294 BK300 BK304 HB; have BK292 := n0_; have BK293 := n1_; have BK294 := n2_; have BK300 := n3_; have BK304 := n4_; have HB := n5_; clear n0_ n1_ n2_ n3_ n4_ n5_; (try clear hb); have hcz58_0 : w57.cell? ⟨gb304, 0, none⟩ = some (.int .u64 t311) := (blk_cell BK304.out 0).trans rfl; have hcz58_1 : w57.cell? ⟨gb304, 1, none⟩ = some (.int .u64 t312) := (blk_cell BK304.out 1).trans rfl; have hfz58_0 := blk_frozen BK304.out 0; have hfz58_1 := blk_frozen BK304.out 1))
  have n0_ : Aside0 (((w57.setCell ⟨gb304, 0, none⟩ (.int .u64 t314)).setCell ⟨gb304, 1, none⟩ (.int .u64 t315)).heap[gb292]? = some (.cells #[.int .i64 a0_0, .int .i64 a0_1, .int .i64 a0_2, .int .i64 a0_3, .int .i64 a0_4, .int .i64 a0_5, .int .i64 a0_6, .int .i64 a0_7] 39 (0, 0))) := ⟨by (with_reducible repeat (first | refine blk_drewN ?_ _ | refine blk_drew ?_ | refine blk_alloc ?_ _)); refine blk_far ?_ NB292_304.out _; (with_reducible repeat (first | refine blk_drewN ?_ _ | refine blk_drew ?_ | refine blk_alloc ?_ _)); refine blk_far ?_ NB292_304.out _; exact kA⟩
  have n1_ : Aside0 (((w57.setCell ⟨gb304, 0, none⟩ (.int .u64 t314)).setCell ⟨gb304, 1, none⟩ (.int .u64 t315)).heap[gb293]? = some (.cells #[.int .u64 0, .int .u64 0] 28 (0, 0))) := ⟨by (with_reducible repeat (first | refine blk_drewN ?_ _ | refine blk_drew ?_ | refine blk_alloc ?_ _)); refine blk_far ?_ NB293_304.out _; (with_reducible repeat (first | refine blk_drewN ?_ _ | refine blk_drew ?_ | refine blk_alloc ?_ _)); refine blk_far ?_ NB293_304.out _; exact kA⟩
  have n2_ : Aside0 (((w57.setCell ⟨gb304, 0, none⟩ (.int .u64 t314)).setCell ⟨gb304, 1, none⟩ (.int .u64 t315)).heap[gb294]? = some (.cells #[.int .u64 0, .int .u64 0] 28 (0, 0))) := ⟨by (with_reducible repeat (first | refine blk_drewN ?_ _ | refine blk_drew ?_ | refine blk_alloc ?_ _)); refine blk_far ?_ NB294_304.out _; (with_reducible repeat (first | refine blk_drewN ?_ _ | refine blk_drew ?_ | refine blk_alloc ?_ _)); refine blk_far ?_ NB294_304.out _; exact kA⟩
  have n3_ : Aside0 (((w57.setCell ⟨gb304, 0, none⟩ (.int .u64 t314)).setCell ⟨gb304, 1, none⟩ (.int .u64 t315)).heap[gb300]? = some (.cells #[.int .u64 t298, .int .u64 t299] 28 (0, 0))) := ⟨by (with_reducible repeat (first | refine blk_drewN ?_ _ | refine blk_drew ?_ | refine blk_alloc ?_ _)); refine blk_far ?_ NB300_304.out _; (with_reducible repeat (first | refine blk_drewN ?_ _ | refine blk_drew ?_ | refine blk_alloc ?_ _)); refine blk_far ?_ NB300_304.out _; exact kA⟩
  have n4_ : Aside0 (((w57.setCell ⟨gb304, 0, none⟩ (.int .u64 t314)).setCell ⟨gb304, 1, none⟩ (.int .u64 t315)).heap[gb304]? = some (.cells #[.int .u64 t314, .int .u64 t315] 28 (0, 0))) := ⟨by (with_reducible repeat (first | refine blk_drewN ?_ _ | refine blk_drew ?_ | refine blk_alloc ?_ _)); refine blk_put (cs := #[.int .u64 t314, .int .u64 t312]) ?_ 1 _ rfl; (with_reducible repeat (first | refine blk_drewN ?_ _ | refine blk_drew ?_ | refine blk_alloc ?_ _)); refine blk_put (cs := #[.int .u64 t311, .int .u64 t312]) ?_ 0 _ rfl; exact kA⟩
  have n5_ : Aside0 (Below w.heap.size w ((w57.setCell ⟨gb304, 0, none⟩ (.int .u64 t314)).setCell ⟨gb304, 1, none⟩ (.int .u64 t315))) := ⟨bA⟩
  (try clear BK292); (try clear BK293); (try clear BK294); (try clear BK300); (try clear BK304); (try clear HB)
  generalize ((w57.setCell ⟨gb304, 0, none⟩ (.int .u64 t314)).setCell ⟨gb304, 1, none⟩ (.int .u64 t315)) = w59 at n0_ n1_ n2_ n3_ n4_ n5_ ⊢
  have BK292 := n0_; have BK293 := n1_; have BK294 := n2_; have BK300 := n3_; have BK304 := n4_; have HB := n5_; clear n0_ n1_ n2_ n3_ n4_ n5_; have n0_ := Aside0.mk (blk_drew BK292.out); have n1_ := Aside0.mk (blk_drew BK293.out); have n2_ := Aside0.mk (blk_drew BK294.out); have n3_ := Aside0.mk (blk_drew BK300.out); have n4_ := Aside0.mk (blk_drew BK304.out); have n5_ := Aside0.mk (below_drew1 HB.out); clear BK292 BK293 BK294 BK300 BK304 HB; have BK292 := n0_; have BK293 := n1_; have BK294 := n2_; have BK300 := n3_; have BK304 := n4_; have HB := n5_; clear n0_ n1_ n2_ n3_ n4_ n5_
  refine start_ (n := 4) (S := fun w' => w'.cell? ⟨gb304, 0, none⟩ = some (.int .u64 t314) ∧ w'.cell? ⟨gb304, 1, none⟩ = some (.int .u64 t315) ∧ w'.cell? ⟨gb300, 0, none⟩ = some (.int .u64 t298) ∧ w'.cell? ⟨gb300, 1, none⟩ = some (.int .u64 t299)) (ds := []) #[false, false, false, false] (by kernel_rfl) rfl rfl ⟨(blk_cell BK304.out 0).trans rfl, (blk_cell BK304.out 1).trans rfl, (blk_cell BK300.out 0).trans rfl, (blk_cell BK300.out 1).trans rfl⟩ (fun hHeld => ?_)
  generalize w59.drew = w60 at BK292 BK293 BK294 BK300 BK304 HB hHeld ⊢
  refine take_ (i := 0) (N := some 43) (v := ?_) (a' := ?_) #[true, false, false, false] rfl rfl (by kernel_rfl) (fun _ _ _ h => h) (Or.inl ⟨by rfl, ?_⟩) hHeld ?_ ?_
  rotate_left
  ·rintro w' ⟨s0, s1, s2, s3⟩
   go_simp; with_reducible rfl
  rotate_left
  ·simp only [Act.put, List.setIfInBounds_toArray, List.set_cons_zero, List.set_cons_succ, i64_w, i32_w]
   rfl
  refine take_ (i := 1) (N := some 44) (v := ?_) (a' := ?_) #[true, true, false, false] rfl rfl (by kernel_rfl) (fun _ _ _ h => h) (Or.inl ⟨by rfl, ?_⟩) hHeld ?_ ?_
  rotate_left
  ·rintro w' ⟨s0, s1, s2, s3⟩
   go_simp; with_reducible rfl
  rotate_left
  ·simp only [Act.put, List.setIfInBounds_toArray, List.set_cons_zero, List.set_cons_succ, i64_w, i32_w]
   rfl
  refine one_ (i := 2) (N := none) #[true, true, true, false] rfl rfl (by kernel_rfl) (by decide) (fun K hK => ?_)
  have hs61 : w60.cell? ⟨gb293, 0, none⟩ = some (.int .u64 0) := (blk_cell BK293.out 0).trans rfl
  have hfs61 := blk_frozen BK293.out 0
  have hns61_0 := NB292_293.out
  have hns61_2 := NB294_293.out
  have hns61_3 := NB300_293.out
  have hns61_4 := NB304_293.out
  have hms61_0 := NB293_292.out
  have hms61_2 := NB293_294.out
  have hms61_3 := NB293_300.out
  have hms61_4 := NB293_304.out
  have hs62 : w60.cell? ⟨gb293, 1, none⟩ = some (.int .u64 0) := (blk_cell BK293.out 1).trans rfl
  have hfs62 := blk_frozen BK293.out 1
  have hns62_0 := NB292_293.out
  have hns62_2 := NB294_293.out
  have hns62_3 := NB300_293.out
  have hns62_4 := NB304_293.out
  have hms62_0 := NB293_292.out
  have hms62_2 := NB293_294.out
  have hms62_3 := NB293_300.out
  have hms62_4 := NB293_304.out
  refine skip_ (w1 := ?_) (by rfl) rfl ?_ ?_
  rotate_left
  ·go_simp
   rfl
  refine hK.out _ _ ⟨((cell_far (p := ⟨gb293, _, none⟩) NB304_293.out _).trans (((cell_far (p := ⟨gb293, _, none⟩) NB304_293.out _).trans (hHeld.1)))), ((cell_far (p := ⟨gb293, _, none⟩) NB304_293.out _).trans (((cell_far (p := ⟨gb293, _, none⟩) NB304_293.out _).trans (hHeld.2.1)))), ((cell_far (p := ⟨gb293, _, none⟩) NB300_293.out _).trans (((cell_far (p := ⟨gb293, _, none⟩) NB300_293.out _).trans (hHeld.2.2.1)))), ((cell_far (p := ⟨gb293, _, none⟩) NB300_293.out _).trans (((cell_far (p := ⟨gb293, _, none⟩) NB300_293.out _).trans (hHeld.2.2.2))))⟩ (fun hHeld => ?_)
  clear hK K
  refine one_ (i := 3) (N := none) #[true, true, true, true] rfl rfl (by kernel_rfl) (by decide) (fun K hK => ?_)
  have hs63 : w60.cell? ⟨gb294, 0, none⟩ = some (.int .u64 0) := (blk_cell BK294.out 0).trans rfl
  have hfs63 := blk_frozen BK294.out 0
  have hns63_0 := NB292_294.out
  have hns63_1 := NB293_294.out
  have hns63_3 := NB300_294.out
  have hns63_4 := NB304_294.out
  have hms63_0 := NB294_292.out
  have hms63_1 := NB294_293.out
  have hms63_3 := NB294_300.out
  have hms63_4 := NB294_304.out
  have hs64 : w60.cell? ⟨gb294, 1, none⟩ = some (.int .u64 0) := (blk_cell BK294.out 1).trans rfl
  have hfs64 := blk_frozen BK294.out 1
  have hns64_0 := NB292_294.out
  have hns64_1 := NB293_294.out
  have hns64_3 := NB300_294.out
  have hns64_4 := NB304_294.out
  have hms64_0 := NB294_292.out
  have hms64_1 := NB294_293.out
  have hms64_3 := NB294_300.out
  have hms64_4 := NB294_304.out
  refine skip_ (w1 := ?_) (by rfl) rfl ?_ ?_
  rotate_left
  ·go_simp
   rfl
  refine hK.out _ _ ⟨((cell_far (p := ⟨gb294, _, none⟩) NB304_294.out _).trans (((cell_far (p := ⟨gb294, _, none⟩) NB304_294.out _).trans (hHeld.1)))), ((cell_far (p := ⟨gb294, _, none⟩) NB304_294.out _).trans (((cell_far (p := ⟨gb294, _, none⟩) NB304_294.out _).trans (hHeld.2.1)))), ((cell_far (p := ⟨gb294, _, none⟩) NB300_294.out _).trans (((cell_far (p := ⟨gb294, _, none⟩) NB300_294.out _).trans (hHeld.2.2.1)))), ((cell_far (p := ⟨gb294, _, none⟩) NB300_294.out _).trans (((cell_far (p := ⟨gb294, _, none⟩) NB300_294.out _).trans (hHeld.2.2.2))))⟩ (fun hHeld => ?_)
  clear hK K
  refine done_ (by kernel_rfl) ?_
  try go_wp2
  refine bodyPost_ret (results_cc rfl _ _ gb293 gb294 28 28 #[.int .u64 t314, .int .u64 t315] #[.int .u64 t298, .int .u64 t299] (0, 0) (0, 0) _ _ rfl (by (with_reducible repeat (first | refine blk_drewN ?_ _ | refine blk_drew ?_ | refine blk_alloc ?_ _)); refine blk_far ?_ NB293_294.out _; (with_reducible repeat (first | refine blk_drewN ?_ _ | refine blk_drew ?_ | refine blk_alloc ?_ _)); refine blk_far ?_ NB293_294.out _; (with_reducible repeat (first | refine blk_drewN ?_ _ | refine blk_drew ?_ | refine blk_alloc ?_ _)); refine blk_put (cs := #[.int .u64 t314, .int .u64 0]) ?_ 1 _ rfl; (with_reducible repeat (first | refine blk_drewN ?_ _ | refine blk_drew ?_ | refine blk_alloc ?_ _)); refine blk_put (cs := #[.int .u64 0, .int .u64 0]) ?_ 0 _ rfl; exact kA) Try.underlying28 rfl (by kernel_rfl) rfl (by (with_reducible repeat (first | refine blk_drewN ?_ _ | refine blk_drew ?_ | refine blk_alloc ?_ _)); refine blk_put (cs := #[.int .u64 t298, .int .u64 0]) ?_ 1 _ rfl; (with_reducible repeat (first | refine blk_drewN ?_ _ | refine blk_drew ?_ | refine blk_alloc ?_ _)); refine blk_put (cs := #[.int .u64 0, .int .u64 0]) ?_ 0 _ rfl; (with_reducible repeat (first | refine blk_drewN ?_ _ | refine blk_drew ?_ | refine blk_alloc ?_ _)); refine blk_far ?_ NB294_293.out _; (with_reducible repeat (first | refine blk_drewN ?_ _ | refine blk_drew ?_ | refine blk_alloc ?_ _)); refine blk_far ?_ NB294_293.out _; exact kA) Try.underlying28 rfl (by kernel_rfl)) rfl ?_
  exact ⟨by first | rfl | (simp [errW_none, errW_some] <;> rfl) | (simp [*, errW_none, errW_some] <;> rfl), bA⟩

/-! ### backfillref11_within: function 104 -/
def backfillref11_within.f (a0 : Int) (a1 : Int) (a2 : Int) : Option (Bool) := if a0 ≥ a1 then (some (decide (a0 ≤ a2))) else (some false)
set_option maxHeartbeats 8000000 in
set_option maxRecDepth 100000 in
theorem backfillref11_within.calls (a0 : Int) (a1 : Int) (a2 : Int) (r : Bool) (w : World) (h : backfillref11_within.f a0 a1 a2 = some r) :
  Calls Try.prog 104 #[.int .i64 a0, .int .i64 a1, .int .i64 a2] w fun e w' => e = .returned (.bool r) ∧ Drawn0 w w' := by
 have H : (if a0 ≥ a1 then (some (decide (a0 ≤ a2))) else (some false)) = some r := h
 clear h
 by_cases c4 : a0 ≥ a1
 ·rw [if_pos c4] at H
  have c4b0 : decide (a1 ≤ a0) = true := decide_eq_true c4
  clear c4
  obtain rfl := Option.some.inj H
  go_enter Try.func104, Try.ntmps104
  go_wp2
  go_ret
  exact ⟨by first | rfl | (simp; done) | (simp [*]; done), by repeat (first | exact Drawn0.refl _ | apply Drawn0.step)⟩
 ·rw [if_neg c4] at H
  have c4b0 : decide (a1 ≤ a0) = false := decide_eq_false c4
  clear c4
  obtain rfl := Option.some.inj H
  go_enter Try.func104, Try.ntmps104
  go_wp2
  go_ret
  exact ⟨by first | rfl | (simp; done) | (simp [*]; done), by repeat (first | exact Drawn0.refl _ | apply Drawn0.step)⟩

end Go.Proofs.Ytcolhngdhlamkaa.GCT
