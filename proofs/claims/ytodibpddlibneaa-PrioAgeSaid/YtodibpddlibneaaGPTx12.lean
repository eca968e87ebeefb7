-- Laid by a program of this session (wip/tools/pr.py): contracts and pure functions; Lean checks it.
import Derived.Test.YtodibpddlibneaaGPTx0
import Derived.Test.YtodibpddlibneaaGPTx1
import Derived.Test.YtodibpddlibneaaGPTx10
import Derived.Test.YtodibpddlibneaaGPTx11
namespace Go.Proofs.Ytodibpddlibneaa.GPT
open Go.RowKit Go.Proofs.YtodibpddlibneaaW.PrintWords Go.Proofs.YtodibpddlibneaaW.PrintLast Go.Proofs.YtodibpddlibneaaW.PrintMore
attribute [local go_sem] max2_int min2_int max_two min_two max_three min_three max_four min_four   -- for this text's walks alone
set_option linter.unusedVariables false
set_option linter.unusedSimpArgs false

attribute [local go_sem high] eqA56
/-! ### backfillref11_off: function 27 -/
def backfillref11_off.f (a0_0 : Int) (a0_1 : Int) (a0_2 : Int) (a0_3 : Int) (a0_4 : Int) (a0_5 : Int) (a0_6 : Int) (a0_7 : Int) : Option (Int × Int × Int × Int) := if a0_4 = 0 then ((backfillref01_Of.f 1).bind fun bt264 => (some (0, 0, bt264.1, bt264.2))) else ((backfillref11_C.f a0_0 a0_1 a0_2 a0_3 a0_4 a0_5 a0_6 a0_7).bind fun t266 => ((backfillref01_Mul.f (IntKind.u64.wrap (t266)) 4294967296).bind fun bt267 => ((backfillref11_G.f a0_0 a0_1 a0_2 a0_3 a0_4 a0_5 a0_6 a0_7).bind fun t270 => ((backfillref01_Mul.f 258048 (IntKind.u64.wrap (t270))).bind fun bt271 => ((backfillref11_C.f a0_0 a0_1 a0_2 a0_3 a0_4 a0_5 a0_6 a0_7).bind fun t274 => ((backfillref01_Of.f (IntKind.u64.wrap (wrap64 (2 * t274)))).bind fun bt275 => ((backfillref01_Add.f bt271.1 bt271.2 bt275.1 bt275.2).bind fun bt277 => ((backfillref01_Times.f bt277.1 bt277.2.1 (IntKind.u64.wrap (a0_4))).bind fun bt280 => ((backfillref01_Add.f bt280.1 bt280.2.1 bt267.1 bt267.2).bind fun bt283 => (some (bt283.1, bt283.2.1, bt267.1, bt267.2)))))))))))
def backfillref11_off.T5 : Bool × List (List Nat × List Nat) := (true, [([], []), ([], []), ([1], [1]), ([2], [2]), ([3], [3]), ([4, 2], [4]), ([0, 5, 5], [0, 5]), ([6], [6]), ([7], [7]), ([7], [7]), ([8, 6, 0, 1, 2, 3, 4, 5, 6, 7, 8], [8])])
def backfillref11_off.B5 : List Nat := [0, 0, 2, 6, 14, 30, 63, 127, 255, 255, 511]
theorem backfillref11_off.tab5 : rtab .any (opsOf Try.f27 5) = backfillref11_off.T5 := by kernel_rfl
theorem backfillref11_off.bits5 : waitsOk backfillref11_off.T5.2 backfillref11_off.B5 = true := by kernel_rfl
set_option maxHeartbeats 8000000 in
set_option maxRecDepth 100000 in
theorem backfillref11_off.calls (a0_0 : Int) (a0_1 : Int) (a0_2 : Int) (a0_3 : Int) (a0_4 : Int) (a0_5 : Int) (a0_6 : Int) (a0_7 : Int) (r1 : Int) (r2 : Int) (r3 : Int) (r4 : Int) (w : World) (h : backfillref11_off.f a0_0 a0_1 a0_2 a0_3 a0_4 a0_5 a0_6 a0_7 = some (r1, r2, r3, r4)) :
  Calls Try.prog 27 #[.agg #[.int .i64 a0_0, .int .i64 a0_1, .int .i64 a0_2, .int .i64 a0_3, .int .i64 a0_4, .int .i64 a0_5, .int .i64 a0_6, .int .i64 a0_7]] w fun e w' => e = .returned (.tuple #[.agg #[.int .u64 r1, .int .u64 r2], .agg #[.int .u64 r3, .int .u64 r4]]) ∧ Below w.heap.size w w' := by
 have hu31 := Try.underlying31
 have hu56 := Try.underlying56
 have HB := Aside0.mk (Below.refl w.heap.size w)
 have H : (if a0_4 = 0 then ((backfillref01_Of.f 1).bind fun bt264 => (some (0, 0, bt264.1, bt264.2))) else ((backfillref11_C.f a0_0 a0_1 a0_2 a0_3 a0_4 a0_5 a0_6 a0_7).bind fun t266 => ((backfillref01_Mul.f (IntKind.u64.wrap (t266)) 4294967296).bind fun bt267 => ((backfillref11_G.f a0_0 a0_1 a0_2 a0_3 a0_4 a0_5 a0_6 a0_7).bind fun t270 => ((backfillref01_Mul.f 258048 (IntKind.u64.wrap (t270))).bind fun bt271 => ((backfillref11_C.f a0_0 a0_1 a0_2 a0_3 a0_4 a0_5 a0_6 a0_7).bind fun t274 => ((backfillref01_Of.f (IntKind.u64.wrap (wrap64 (2 * t274)))).bind fun bt275 => ((backfillref01_Add.f bt271.1 bt271.2 bt275.1 bt275.2).bind fun bt277 => ((backfillref01_Times.f bt277.1 bt277.2.1 (IntKind.u64.wrap (a0_4))).bind fun bt280 => ((backfillref01_Add.f bt280.1 bt280.2.1 bt267.1 bt267.2).bind fun bt283 => (some (bt283.1, bt283.2.1, bt267.1, bt267.2)))))))))))) = some (r1, r2, r3, r4) := h
 clear h
 by_cases c2 : a0_4 = 0
 ·rw [if_pos c2] at H
  have c2b0 : (a0_4 == 0) = true := beq_iff_eq.mpr c2
  have c2b1 : (a0_4 != 0) = false := bne_eq_false_iff_eq.mpr c2
  clear c2; replace H := Option.bind_eq_some_iff.mp H; obtain ⟨⟨t264, t265⟩, A30, H⟩ := H; replace H : (some (0, 0, t264, t265)) = some (r1, r2, r3, r4) := H; have A3 := Aside0.mk A30; clear A30
  simp only [Option.some.injEq, Prod.mk.injEq] at H
  obtain ⟨rfl, rfl, rfl, rfl⟩ := H
  go_enter Try.func27, Try.ntmps27
  go_wp2_with (first | ((with_reducible refine gate_dst (N := 1) rfl ?_); refine bxA 1 #[.int .i64 a0_0, .int .i64 a0_1, .int .i64 a0_2, .int .i64 a0_3, .int .i64 a0_4, .int .i64 a0_5, .int .i64 a0_6, .int .i64 a0_7] 31 ?_; intro gb261 hg w4 hbox hb; have n0_ := Aside0.mk (below_step bA hb); have n1_ := Aside0.mk (hbox); have n2_ := Aside0.mk (gwA hg bA); have n3_ := Aside0.mk (gwA hg bA); clear HB; have HB := n0_; have BK261 := n1_; have GW261 := n2_; have GE261 := n3_; clear n0_ n1_ n2_ n3_ hb hbox hg) | ((with_reducible refine gate_dst (N := 2) rfl ?_); refine bxA 2 #[.int .u64 0, .int .u64 0] 56 ?_; intro gb262 hg w5 hbox hb; have n0_ := Aside0.mk (blk_below (g := gb261) kA hb); have n1_ := Aside0.mk (below_step bA hb); have n2_ := Aside0.mk (hbox); have n3_ := Aside0.mk (gwA hg bA); have n4_ := Aside0.mk (gwA hg bA); have n5_ := Aside0.mk (neA (g := gb261) hg kA); have n6_ := Aside0.mk (neB (g := gb261) hg kA); clear BK261 HB; have BK261 := n0_; have HB := n1_; have BK262 := n2_; have GW262 := n3_; have GE262 := n4_; have NB261_262 := n5_; have NB262_261 := n6_; clear n0_ n1_ n2_ n3_ n4_ n5_ n6_ hb hbox hg) | ((with_reducible refine gate_dst (N := 3) rfl ?_); refine bxA 3 #[.int .u64 0, .int .u64 0] 56 ?_; intro gb263 hg w6 hbox hb; have n0_ := Aside0.mk (blk_below (g := gb261) kA hb); have n1_ := Aside0.mk (blk_below (g := gb262) kA hb); have n2_ := Aside0.mk (below_step bA hb); have n3_ := Aside0.mk (hbox); have n4_ := Aside0.mk (gwA hg bA); have n5_ := Aside0.mk (gwA hg bA); have n6_ := Aside0.mk (neA (g := gb261) hg kA); have n7_ := Aside0.mk (neB (g := gb261) hg kA); have n8_ := Aside0.mk (neA (g := gb262) hg kA); have n9_ := Aside0.mk (neB (g := gb262) hg kA); clear BK261 BK262 HB; have BK261 := n0_; have BK262 := n1_; have HB := n2_; have BK263 := n3_; have GW263 := n4_; have GE263 := n5_; have NB261_263 := n6_; have NB263_261 := n7_; have NB262_263 := n8_; have NB263_262 := n9_; clear n0_ n1_ n2_ n3_ n4_ n5_ n6_ n7_ n8_ n9_ hb hbox hg; have hnb7 := NB261_262.out; have hnc7 := NB262_261.out; have hnb8 := NB261_263.out; have hnc8 := NB263_261.out; have hcz9_0 : w6.cell? ⟨gb261, 0, none⟩ = some (.int .i64 a0_0) := (blk_cell BK261.out 0).trans rfl; have hcz9_1 : w6.cell? ⟨gb261, 1, none⟩ = some (.int .i64 a0_1) := (blk_cell BK261.out 1).trans rfl; have hcz9_2 : w6.cell? ⟨gb261, 2, none⟩ = some (.int .i64 a0_2) := (blk_cell BK261.out 2).trans rfl; have hcz9_3 : w6.cell? ⟨gb261, 3, none⟩ = some (.int .i64 a0_3) := (blk_cell BK261.out 3).trans rfl; have hcz9_4 : w6.cell? ⟨gb261, 4, none⟩ = some (.int .i64 a0_4) := (blk_cell BK261.out 4).trans rfl; have hcz9_5 : w6.cell? ⟨gb261, 5, none⟩ = some (.int .i64 a0_5) := (blk_cell BK261.out 5).trans rfl; have hcz9_6 : w6.cell? ⟨gb261, 6, none⟩ = some (.int .i64 a0_6) := (blk_cell BK261.out 6).trans rfl; have hcz9_7 : w6.cell? ⟨gb261, 7, none⟩ = some (.int .i64 a0_7) := (blk_cell BK261.out 7).trans rfl; have hfz9_0 := blk_frozen BK261.out 0; have hfz9_1 := blk_frozen BK261.out 1; have hfz9_2 := blk_frozen BK261.out 2; have hfz9_3 := blk_frozen BK261.out 3; have hfz9_4 := blk_frozen BK261.out 4; have hfz9_5 := blk_frozen BK261.out 5; have hfz9_6 := blk_frozen BK261.out 6; have hfz9_7 := blk_frozen BK261.out 7) | ((with_reducible refine gate_callee (f := 42) rfl ?_); refine goesL_ (some 10) rfl rfl Try.func42 (by kernel_rfl) rfl #[.int .u64 1] rfl aA ?_; (with_reducible refine (backfillref01_Of.calls 1 t264 t265 _ A3.out).mono ?_); rintro e w10 ⟨rfl, hb⟩; refine ⟨_, rfl, ?_⟩; have n0_ := Aside0.mk (blk_below (g := gb261) kA hb); have n1_ := Aside0.mk (blk_below (g := gb262) kA hb); have n2_ := Aside0.mk (blk_below (g := gb263) kA hb); have n3_ := Aside0.mk (below_step bA hb); clear BK261 BK262 BK263 HB; have BK261 := n0_; have BK262 := n1_; have BK263 := n2_; have HB := n3_; clear n0_ n1_ n2_ n3_; (try clear hb); have hnb11 := NB262_263.out; have hnc11 := NB263_262.out; have hcz12_0 : w10.cell? ⟨gb262, 0, none⟩ = some (.int .u64 0) := (blk_cell BK262.out 0).trans rfl; have hcz12_1 : w10.cell? ⟨gb262, 1, none⟩ = some (.int .u64 0) := (blk_cell BK262.out 1).trans rfl; have hfz12_0 := blk_frozen BK262.out 0; have hfz12_1 := blk_frozen BK262.out 1; have hcz13_0 : w10.cell? ⟨gb263, 0, none⟩ = some (.int .u64 0) := (blk_cell BK263.out 0).trans rfl; have hcz13_1 : w10.cell? ⟨gb263, 1, none⟩ = some (.int .u64 0) := (blk_cell BK263.out 1).trans rfl; have hfz13_0 := blk_frozen BK263.out 0; have hfz13_1 := blk_frozen BK263.out 1))
  refine bodyPost_ret (results_cc rfl _ _ gb262 gb263 56 56 #[.int .u64 0, .int .u64 0] #[.int .u64 t264, .int .u64 t265] (0, 0) (0, 0) _ _ rfl (by (with_reducible repeat (first | refine blk_drewN ?_ _ | refine blk_drew ?_ | refine blk_alloc ?_ _)); refine blk_far ?_ NB262_263.out _; (with_reducible repeat (first | refine blk_drewN ?_ _ | refine blk_drew ?_ | refine blk_alloc ?_ _)); refine blk_far ?_ NB262_263.out _; (with_reducible repeat (first | refine blk_drewN ?_ _ | refine blk_drew ?_ | refine blk_alloc ?_ _)); refine blk_put (cs := #[.int .u64 0, .int .u64 0]) ?_ 1 _ rfl; (with_reducible repeat (first | refine blk_drewN ?_ _ | refine blk_drew ?_ | refine blk_alloc ?_ _)); refine blk_put (cs := #[.int .u64 0, .int .u64 0]) ?_ 0 _ rfl; exact kA) Try.underlying56 rfl (by kernel_rfl) rfl (by (with_reducible repeat (first | refine blk_drewN ?_ _ | refine blk_drew ?_ | refine blk_alloc ?_ _)); refine blk_put (cs := #[.int .u64 t264, .int .u64 0]) ?_ 1 _ rfl; (with_reducible repeat (first | refine blk_drewN ?_ _ | refine blk_drew ?_ | refine blk_alloc ?_ _)); refine blk_put (cs := #[.int .u64 0, .int .u64 0]) ?_ 0 _ rfl; (with_reducible repeat (first | refine blk_drewN ?_ _ | refine blk_drew ?_ | refine blk_alloc ?_ _)); refine blk_far ?_ NB263_262.out _; (with_reducible repeat (first | refine blk_drewN ?_ _ | refine blk_drew ?_ | refine blk_alloc ?_ _)); refine blk_far ?_ NB263_262.out _; exact kA) Try.underlying56 rfl (by kernel_rfl)) rfl ?_
  exact ⟨by first | rfl | (simp [errW_none, errW_some] <;> rfl) | (simp [*, errW_none, errW_some] <;> rfl), bA⟩
 ·rw [if_neg c2] at H
  have c2b0 : (a0_4 == 0) = false := beq_eq_false_iff_ne.mpr c2
  have c2b1 : (a0_4 != 0) = true := bne_iff_ne.mpr c2
  replace H := Option.bind_eq_some_iff.mp H; obtain ⟨t266, A140, H⟩ := H; replace H : ((backfillref01_Mul.f (IntKind.u64.wrap (t266)) 4294967296).bind fun bt267 => ((backfillref11_G.f a0_0 a0_1 a0_2 a0_3 a0_4 a0_5 a0_6 a0_7).bind fun t270 => ((backfillref01_Mul.f 258048 (IntKind.u64.wrap (t270))).bind fun bt271 => ((backfillref11_C.f a0_0 a0_1 a0_2 a0_3 a0_4 a0_5 a0_6 a0_7).bind fun t274 => ((backfillref01_Of.f (IntKind.u64.wrap (wrap64 (2 * t274)))).bind fun bt275 => ((backfillref01_Add.f bt271.1 bt271.2 bt275.1 bt275.2).bind fun bt277 => ((backfillref01_Times.f bt277.1 bt277.2.1 (IntKind.u64.wrap (a0_4))).bind fun bt280 => ((backfillref01_Add.f bt280.1 bt280.2.1 bt267.1 bt267.2).bind fun bt283 => (some (bt283.1, bt283.2.1, bt267.1, bt267.2)))))))))) = some (r1, r2, r3, r4) := H; have A14 := Aside0.mk A140; clear A140; replace H := Option.bind_eq_some_iff.mp H; obtain ⟨⟨t267, t268⟩, A150, H⟩ := H; replace H : ((backfillref11_G.f a0_0 a0_1 a0_2 a0_3 a0_4 a0_5 a0_6 a0_7).bind fun t270 => ((backfillref01_Mul.f 258048 (IntKind.u64.wrap (t270))).bind fun bt271 => ((backfillref11_C.f a0_0 a0_1 a0_2 a0_3 a0_4 a0_5 a0_6 a0_7).bind fun t274 => ((backfillref01_Of.f (IntKind.u64.wrap (wrap64 (2 * t274)))).bind fun bt275 => ((backfillref01_Add.f bt271.1 bt271.2 bt275.1 bt275.2).bind fun bt277 => ((backfillref01_Times.f bt277.1 bt277.2.1 (IntKind.u64.wrap (a0_4))).bind fun bt280 => ((backfillref01_Add.f bt280.1 bt280.2.1 t267 t268).bind fun bt283 => (some (bt283.1, bt283.2.1, t267, t268))))))))) = some (r1, r2, r3, r4) := H; have A15 := Aside0.mk A150; clear A150; replace H := Option.bind_eq_some_iff.mp H; obtain ⟨t270, A160, H⟩ := H; replace H : ((backfillref01_Mul.f 258048 (IntKind.u64.wrap (t270))).bind fun bt271 => ((backfillref11_C.f a0_0 a0_1 a0_2 a0_3 a0_4 a0_5 a0_6 a0_7).bind fun t274 => ((backfillref01_Of.f (IntKind.u64.wrap (wrap64 (2 * t274)))).bind fun bt275 => ((backfillref01_Add.f bt271.1 bt271.2 bt275.1 bt275.2).bind fun bt277 => ((backfillref01_Times.f bt277.1 bt277.2.1 (IntKind.u64.wrap (a0_4))).bind fun bt280 => ((backfillref01_Add.f bt280.1 bt280.2.1 t267 t268).bind fun bt283 => (some (bt283.1, bt283.2.1, t267, t268)))))))) = some (r1, r2, r3, r4) := H; have A16 := Aside0.mk A160; clear A160; replace H := Option.bind_eq_some_iff.mp H; obtain ⟨⟨t271, t272⟩, A170, H⟩ := H; replace H : ((backfillref11_C.f a0_0 a0_1 a0_2 a0_3 a0_4 a0_5 a0_6 a0_7).bind fun t274 => ((backfillref01_Of.f (IntKind.u64.wrap (wrap64 (2 * t274)))).bind fun bt275 => ((backfillref01_Add.f t271 t272 bt275.1 bt275.2).bind fun bt277 => ((backfillref01_Times.f bt277.1 bt277.2.1 (IntKind.u64.wrap (a0_4))).bind fun bt280 => ((backfillref01_Add.f bt280.1 bt280.2.1 t267 t268).bind fun bt283 => (some (bt283.1, bt283.2.1, t267, t268))))))) = some (r1, r2, r3, r4) := H; have A17 := Aside0.mk A170; clear A170; replace H := Option.bind_eq_some_iff.mp H; obtain ⟨t274, A180, H⟩ := H; replace H : ((backfillref01_Of.f (IntKind.u64.wrap (wrap64 (2 * t274)))).bind fun bt275 => ((backfillref01_Add.f t271 t272 bt275.1 bt275.2).bind fun bt277 => ((backfillref01_Times.f bt277.1 bt277.2.1 (IntKind.u64.wrap (a0_4))).bind fun bt280 => ((backfillref01_Add.f bt280.1 bt280.2.1 t267 t268).bind fun bt283 => (some (bt283.1, bt283.2.1, t267, t268)))))) = some (r1, r2, r3, r4) := H; have A18 := Aside0.mk A180; clear A180; replace H := Option.bind_eq_some_iff.mp H; obtain ⟨⟨t275, t276⟩, A190, H⟩ := H; replace H : ((backfillref01_Add.f t271 t272 t275 t276).bind fun bt277 => ((backfillref01_Times.f bt277.1 bt277.2.1 (IntKind.u64.wrap (a0_4))).bind fun bt280 => ((backfillref01_Add.f bt280.1 bt280.2.1 t267 t268).bind fun bt283 => (some (bt283.1, bt283.2.1, t267, t268))))) = some (r1, r2, r3, r4) := H; have A19 := Aside0.mk A190; clear A190; replace H := Option.bind_eq_some_iff.mp H; obtain ⟨⟨t277, t278, t279⟩, A200, H⟩ := H; replace H : ((backfillref01_Times.f t277 t278 (IntKind.u64.wrap (a0_4))).bind fun bt280 => ((backfillref01_Add.f bt280.1 bt280.2.1 t267 t268).bind fun bt283 => (some (bt283.1, bt283.2.1, t267, t268)))) = some (r1, r2, r3, r4) := H
  have A20 := Aside0.mk A200; clear A200; replace H := Option.bind_eq_some_iff.mp H; obtain ⟨⟨t280, t281, t282⟩, A210, H⟩ := H; replace H : ((backfillref01_Add.f t280 t281 t267 t268).bind fun bt283 => (some (bt283.1, bt283.2.1, t267, t268))) = some (r1, r2, r3, r4) := H; have A21 := Aside0.mk A210; clear A210; replace H := Option.bind_eq_some_iff.mp H; obtain ⟨⟨t283, t284, t285⟩, A220, H⟩ := H; replace H : (some (t283, t284, t267, t268)) = some (r1, r2, r3, r4) := H; have A22 := Aside0.mk A220; clear A220
  simp only [Option.some.injEq, Prod.mk.injEq] at H
  obtain ⟨rfl, rfl, rfl, rfl⟩ := H
  go_enter Try.func27, Try.ntmps27
  try go_wp2_with (first | ((with_reducible refine gate_dst (N := 1) rfl ?_); refine bxA 1 #[.int .i64 a0_0, .int .i64 a0_1, .int .i64 a0_2, .int .i64 a0_3, .int .i64 a0_4, .int .i64 a0_5, .int .i64 a0_6, .int .i64 a0_7] 31 ?_; intro gb261 hg w23 hbox hb; have n0_ := Aside0.mk (below_step bA hb); have n1_ := Aside0.mk (hbox); have n2_ := Aside0.mk (gwA hg bA); have n3_ := Aside0.mk (gwA hg bA); clear HB; have HB := n0_; have BK261 := n1_; have GW261 := n2_; have GE261 := n3_; clear n0_ n1_ n2_ n3_ hb hbox hg) | ((with_reducible refine gate_dst (N := 2) rfl ?_); refine bxA 2 #[.int .u64 0, .int .u64 0] 56 ?_; intro gb262 hg w24 hbox hb; have n0_ := Aside0.mk (blk_below (g := gb261) kA hb); have n1_ := Aside0.mk (below_step bA hb); have n2_ := Aside0.mk (hbox); have n3_ := Aside0.mk (gwA hg bA); have n4_ := Aside0.mk (gwA hg bA); have n5_ := Aside0.mk (neA (g := gb261) hg kA); have n6_ := Aside0.mk (neB (g := gb261) hg kA); clear BK261 HB; have BK261 := n0_; have HB := n1_; have BK262 := n2_; have GW262 := n3_; have GE262 := n4_; have NB261_262 := n5_; have NB262_261 := n6_; clear n0_ n1_ n2_ n3_ n4_ n5_ n6_ hb hbox hg) | ((with_reducible refine gate_dst (N := 3) rfl ?_); refine bxA 3 #[.int .u64 0, .int .u64 0] 56 ?_; intro gb263 hg w25 hbox hb; have n0_ := Aside0.mk (blk_below (g := gb261) kA hb); have n1_ := Aside0.mk (blk_below (g := gb262) kA hb); have n2_ := Aside0.mk (below_step bA hb); have n3_ := Aside0.mk (hbox); have n4_ := Aside0.mk (gwA hg bA); have n5_ := Aside0.mk (gwA hg bA); have n6_ := Aside0.mk (neA (g := gb261) hg kA); have n7_ := Aside0.mk (neB (g := gb261) hg kA); have n8_ := Aside0.mk (neA (g := gb262) hg kA); have n9_ := Aside0.mk (neB (g := gb262) hg kA); clear BK261 BK262 HB; have BK261 := n0_; have BK262 := n1_; have HB := n2_; have BK263 := n3_; have GW263 := n4_; have GE263 := n5_; have NB261_263 := n6_; have NB263_261 := n7_; have NB262_263 := n8_; have NB263_262 := n9_; clear n0_ n1_ n2_ n3_ n4_ n5_ n6_ n7_ n8_ n9_ hb hbox hg; have hnb26 := NB261_262.out; have hnc26 := NB262_261.out; have hnb27 := NB261_263.out; have hnc27 := NB263_261.out; have hcz28_0 : w25.cell? ⟨gb261, 0, none⟩ = some (.int .i64 a0_0) := (blk_cell BK261.out 0).trans rfl; have hcz28_1 : w25.cell? ⟨gb261, 1, none⟩ = some (.int .i64 a0_1) := (blk_cell BK261.out 1).trans rfl; have hcz28_2 : w25.cell? ⟨gb261, 2, none⟩ = some (.int .i64 a0_2) := (blk_cell BK261.out 2).trans rfl; have hcz28_3 : w25.cell? ⟨gb261, 3, none⟩ = some (.int .i64 a0_3) := (blk_cell BK261.out 3).trans rfl; have hcz28_4 : w25.cell? ⟨gb261, 4, none⟩ = some (.int .i64 a0_4) := (blk_cell BK261.out 4).trans rfl; have hcz28_5 : w25.cell? ⟨gb261, 5, none⟩ = some (.int .i64 a0_5) := (blk_cell BK261.out 5).trans rfl; have hcz28_6 : w25.cell? ⟨gb261, 6, none⟩ = some (.int .i64 a0_6) := (blk_cell BK261.out 6).trans rfl; have hcz28_7 : w25.cell? ⟨gb261, 7, none⟩ = some (.int .i64 a0_7) := (blk_cell BK261.out 7).trans rfl; have hfz28_0 := blk_frozen BK261.out 0; have hfz28_1 := blk_frozen BK261.out 1; have hfz28_2 := blk_frozen BK261.out 2; have hfz28_3 := blk_frozen BK261.out 3; have hfz28_4 := blk_frozen BK261.out 4; have hfz28_5 := blk_frozen BK261.out 5; have hfz28_6 := blk_frozen BK261.out 6; have hfz28_7 := blk_frozen BK261.out 7) | ((with_reducible refine gate_callee (f := 40) rfl ?_); refine goesL_ (some 12) rfl rfl Try.func40 (by kernel_rfl) rfl #[.agg #[.int .i64 a0_0, .int .i64 a0_1, .int .i64 a0_2, .int .i64 a0_3, .int .i64 a0_4, .int .i64 a0_5, .int .i64 a0_6, .int .i64 a0_7]] rfl aA ?_; (with_reducible refine (backfillref11_C.calls a0_0 a0_1 a0_2 a0_3 a0_4 a0_5 a0_6 a0_7 t266 _ A14.out).mono ?_); rintro e w29 ⟨rfl, hb⟩; refine ⟨_, rfl, ?_⟩; have n0_ := Aside0.mk (blk_below (g := gb261) kA hb); have n1_ := Aside0.mk (blk_below (g := gb262) kA hb); have n2_ := Aside0.mk (blk_below (g := gb263) kA hb); have n3_ := Aside0.mk (below_step bA hb); clear BK261 BK262 BK263 HB; have BK261 := n0_; have BK262 := n1_; have BK263 := n2_; have HB := n3_; clear n0_ n1_ n2_ n3_; (try clear hb)) | ((with_reducible refine gate_callee (f := 43) rfl ?_); refine goesL_ (some 14) rfl rfl Try.func43 (by kernel_rfl) rfl #[.int .u64 (IntKind.u64.wrap (t266)), .int .u64 4294967296] rfl aA ?_; (with_reducible refine (backfillref01_Mul.calls (IntKind.u64.wrap (t266)) 4294967296 t267 t268 _ A15.out).mono ?_); rintro e w30 ⟨rfl, hb⟩; refine ⟨_, rfl, ?_⟩; have n0_ := Aside0.mk (blk_below (g := gb261) kA hb); have n1_ := Aside0.mk (blk_below (g := gb262) kA hb); have n2_ := Aside0.mk (blk_below (g := gb263) kA hb); have n3_ := Aside0.mk (below_step bA hb); clear BK261 BK262 BK263 HB; have BK261 := n0_; have BK262 := n1_; have BK263 := n2_; have HB := n3_; clear n0_ n1_ n2_ n3_; (try clear hb)) | ((with_reducible refine gate_dst (N := 4) rfl ?_); refine bxA 4 #[.int .u64 0, .int .u64 0] 56 ?_; intro gb269 hg w31 hbox hb; have n0_ := Aside0.mk (blk_below (g := gb261) kA hb); have n1_ := Aside0.mk (blk_below (g := gb262) kA hb); have n2_ := Aside0.mk (blk_below (g := gb263) kA hb); have n3_ := Aside0.mk (below_step bA hb); have n4_ := Aside0.mk (hbox); have n5_ := Aside0.mk (gwA hg bA); have n6_ := Aside0.mk (gwA hg bA); have n7_ := Aside0.mk (neA (g := gb261) hg kA); have n8_ := Aside0.mk (neB (g := gb261) hg kA); have n9_ := Aside0.mk (neA (g := gb262) hg kA); have n10_ := Aside0.mk (neB (g := gb262) hg kA); have n11_ := Aside0.mk (neA (g := gb263) hg kA); have n12_ := Aside0.mk (neB (g := gb263) hg kA); clear BK261 BK262 BK263 HB; have BK261 := n0_; have BK262 := n1_; have BK263 := n2_; have HB := n3_; have BK269 := n4_; have GW269 := n5_; have GE269 := n6_; have NB261_269 := n7_; have NB269_261 := n8_; have NB262_269 := n9_; have NB269_262 := n10_; have NB263_269 := n11_; have NB269_263 := n12_; clear n0_ n1_ n2_ n3_ n4_ n5_ n6_ n7_ n8_ n9_ n10_ n11_ n12_ hb hbox hg; have hnb32 := NB269_261.out; have hnc32 := NB261_269.out; have hnb33 := NB269_262.out; have hnc33 := NB262_269.out; have hnb34 := NB269_263.out; have hnc34 := NB263_269.out; have hcz35_0 : w31.cell? ⟨gb269, 0, none⟩ = some (.int .u64 0) := (blk_cell BK269.out 0).trans rfl; have hcz35_1 : w31.cell? ⟨gb269, 1, none⟩ = some (.int .u64 0) := (blk_cell BK269.out 1).trans rfl; have hfz35_0 := blk_frozen BK269.out 0; have hfz35_1 := blk_frozen BK269.out 1; have hcz36_0 : w31.cell? ⟨gb261, 0, none⟩ = some (.int .i64 a0_0) := (blk_cell BK261.out 0).trans rfl; have hcz36_1 : w31.cell? ⟨gb261, 1, none⟩ = some (.int .i64 a0_1) := (blk_cell BK261.out 1).trans rfl; have hcz36_2 : w31.cell? ⟨gb261, 2, none⟩ = some (.int .i64 a0_2) := (blk_cell BK261.out 2).trans rfl; have hcz36_3 : w31.cell? ⟨gb261, 3, none⟩ = some (.int .i64 a0_3) := (blk_cell BK261.out 3).trans rfl; have hcz36_4 : w31.cell? ⟨gb261, 4, none⟩ = some (.int .i64 a0_4) := (blk_cell BK261.out 4).trans rfl; have hcz36_5 : w31.cell? ⟨gb261, 5, none⟩ = some (.int .i64 a0_5) := (blk_cell BK261.out 5).trans rfl; have hcz36_6 : w31.cell? ⟨gb261, 6, none⟩ = some (.int .i64 a0_6) := (blk_cell BK261.out 6).trans rfl; have hcz36_7 : w31.cell? ⟨gb261, 7, none⟩ = some (.int .i64 a0_7) := (blk_cell BK261.out 7).trans rfl; have hfz36_0 := blk_frozen BK261.out 0; have hfz36_1 := blk_frozen BK261.out 1; have hfz36_2 := blk_frozen BK261.out 2; have hfz36_3 := blk_frozen BK261.out 3; have hfz36_4 := blk_frozen BK261.out 4; have hfz36_5 := blk_frozen BK261.out 5; have hfz36_6 := blk_frozen BK261.out 6; have hfz36_7 := blk_frozen BK261.out 7) | ((with_reducible refine gate_callee (f := 44) rfl ?_); refine goesL_ (some 16) rfl rfl Try.func44 (by kernel_rfl) rfl #[.agg #[.int .i64 a0_0, .int .i64 a0_1, .int .i64 a0_2, .int .i64 a0_3, .int .i64 a0_4, .int .i64 a0_5, .int .i64 a0_6, .int .i64 a0_7]] rfl aA ?_; (with_reducible refine (backfillref11_G.calls a0_0 a0_1 a0_2 a0_3 a0_4 a0_5 a0_6 a0_7 t270 _ A16.out).mono ?_); rintro e w37 ⟨rfl, hb⟩; refine ⟨_, rfl, ?_⟩; have n0_ := Aside0.mk (blk_below (g := gb261) (o := .cells #[.int .i64 a0_0, .int .i64 a0_1, .int .i64 a0_2, .int .i64 a0_3, .int .i64 a0_4, .int .i64 a0_5, .int .i64 a0_6, .int .i64 a0_7] 31 (0, 0)) (by (with_reducible repeat (first | refine blk_drewN ?_ _ | refine blk_drew ?_ | refine blk_alloc ?_ _)); refine blk_far ?_ NB261_269.out _; (with_reducible repeat (first | refine blk_drewN ?_ _ | refine blk_drew ?_ | refine blk_alloc ?_ _)); refine blk_far ?_ NB261_269.out _; exact kA) hb); have n1_ := Aside0.mk (blk_below (g := gb262) (o := .cells #[.int .u64 0, .int .u64 0] 56 (0, 0)) (by (with_reducible repeat (first | refine blk_drewN ?_ _ | refine blk_drew ?_ | refine blk_alloc ?_ _)); refine blk_far ?_ NB262_269.out _; (with_reducible repeat (first | refine blk_drewN ?_ _ | refine blk_drew ?_ | refine blk_alloc ?_ _)); refine blk_far ?_ NB262_269.out _; exact kA) hb); have n2_ := Aside0.mk (blk_below (g := gb263) (o := .cells #[.int .u64 0, .int .u64 0] 56 (0, 0)) (by (with_reducible repeat (first | refine blk_drewN ?_ _ | refine blk_drew ?_ | refine blk_alloc ?_ _)); refine blk_far ?_ NB263_269.out _; (with_reducible repeat (first | refine blk_drewN ?_ _ | refine blk_drew ?_ | refine blk_alloc ?_ _)); refine blk_far ?_ NB263_269.out _; exact kA) hb); have n3_ := Aside0.mk (blk_below (g := gb269) (o := .cells #[.int .u64 t267, .int .u64 t268] 56 (0, 0)) (by (with_reducible repeat (first | refine blk_drewN ?_ _ | refine blk_drew ?_ | refine blk_alloc ?_ _)); refine blk_put (cs := #[.int .u64 t267, .int .u64 0]) ?_ 1 _ rfl; (with_reducible repeat (first | refine blk_drewN ?_ _ | refine blk_drew ?_ | refine blk_alloc ?_ _)); refine blk_put (cs := #[.int .u64 0, .int .u64 0]) ?_ 0 _ rfl; exact kA) hb); have n4_ := Aside0.mk (below_step bA hb); clear BK261 BK262 BK263 BK269 HB; have BK261 := n0_; have BK262 := n1_; have BK263 := n2_; have BK269 := n3_; have HB := n4_; clear n0_ n1_ n2_ n3_ n4_; (try clear hb)) | ((with_reducible refine gate_callee (f := 43) rfl ?_); refine goesL_ (some 18) rfl rfl Try.func43 (by kernel_rfl) rfl #[.int .u64 258048, .int .u64 (IntKind.u64.wrap (t270))] rfl aA ?_; (with_reducible refine (backfillref01_Mul.calls 258048 (IntKind.u64.wrap (t270)) t271 t272 _ A17.out).mono ?_); rintro e w38 ⟨rfl, hb⟩; refine ⟨_, rfl, ?_⟩; have n0_ := Aside0.mk (blk_below (g := gb261) kA hb); have n1_ := Aside0.mk (blk_below (g := gb262) kA hb); have n2_ := Aside0.mk (blk_below (g := gb263) kA hb); have n3_ := Aside0.mk (blk_below (g := gb269) kA hb); have n4_ := Aside0.mk (below_step bA hb); clear BK261 BK262 BK263 BK269 HB; have BK261 := n0_; have BK262 := n1_; have BK263 := n2_; have BK269 := n3_; have HB := n4_; clear n0_ n1_ n2_ n3_ n4_; (try clear hb)) | ((with_reducible refine gate_dst (N := 5) rfl ?_); refine bxA 5 #[.int .u64 0, .int .u64 0] 56 ?_; intro gb273 hg w39 hbox hb; have n0_ := Aside0.mk (blk_below (g := gb261) kA hb); have n1_ := Aside0.mk (blk_below (g := gb262) kA hb); have n2_ := Aside0.mk (blk_below (g := gb263) kA hb); have n3_ := Aside0.mk (blk_below (g := gb269) kA hb); have n4_ := Aside0.mk (below_step bA hb); have n5_ := Aside0.mk (hbox); have n6_ := Aside0.mk (gwA hg bA); have n7_ := Aside0.mk (gwA hg bA); have n8_ := Aside0.mk (neA (g := gb261) hg kA); have n9_ := Aside0.mk (neB (g := gb261) hg kA); have n10_ := Aside0.mk (neA (g := gb262) hg kA); have n11_ := Aside0.mk (neB (g := gb262) hg kA); have n12_ := Aside0.mk (neA (g := gb263) hg kA); have n13_ := Aside0.mk (neB (g := gb263) hg kA); have n14_ := Aside0.mk (neA (g := gb269) hg kA); have n15_ := Aside0.mk (neB (g := gb269) hg kA); clear BK261 BK262 BK263 BK269 HB; have BK261 := n0_; have BK262 := n1_; have BK263 := n2_; have BK269 := n3_; have HB := n4_; have BK273 := n5_; have GW273 := n6_; have GE273 := n7_; have NB261_273 := n8_; have NB273_261 := n9_; have NB262_273 := n10_; have NB273_262 := n11_; have NB263_273 := n12_; have NB273_263 := n13_; have NB269_273 := n14_; have NB273_269 := n15_; clear n0_ n1_ n2_ n3_ n4_ n5_ n6_ n7_ n8_ n9_ n10_ n11_ n12_ n13_ n14_ n15_ hb hbox hg; have hnb40 := NB273_261.out; have hnc40 := NB261_273.out; have hnb41 := NB273_262.out; have hnc41 := NB262_273.out; have hnb42 := NB273_263.out; have hnc42 := NB263_273.out; have hnb43 := NB273_269.out; have hnc43 := NB269_273.out; have hcz44_0 : w39.cell? ⟨gb273, 0, none⟩ = some (.int .u64 0) := (blk_cell BK273.out 0).trans rfl; have hcz44_1 : w39.cell? ⟨gb273, 1, none⟩ = some (.int .u64 0) := (blk_cell BK273.out 1).trans rfl; have hfz44_0 := blk_frozen BK273.out 0; have hfz44_1 := blk_frozen BK273.out 1))
  have n0_ : Aside0 (((w39.setCell ⟨gb273, 0, none⟩ (.int .u64 t271)).setCell ⟨gb273, 1, none⟩ (.int .u64 t272)).heap[gb261]? = some (.cells #[.int .i64 a0_0, .int .i64 a0_1, .int .i64 a0_2, .int .i64 a0_3, .int .i64 a0_4, .int .i64 a0_5, .int .i64 a0_6, .int .i64 a0_7] 31 (0, 0))) := ⟨by (with_reducible repeat (first | refine blk_drewN ?_ _ | refine blk_drew ?_ | refine blk_alloc ?_ _)); refine blk_far ?_ NB261_273.out _; (with_reducible repeat (first | refine blk_drewN ?_ _ | refine blk_drew ?_ | refine blk_alloc ?_ _)); refine blk_far ?_ NB261_273.out _; exact kA⟩
  have n1_ : Aside0 (((w39.setCell ⟨gb273, 0, none⟩ (.int .u64 t271)).setCell ⟨gb273, 1, none⟩ (.int .u64 t272)).heap[gb262]? = some (.cells #[.int .u64 0, .int .u64 0] 56 (0, 0))) := ⟨by (with_reducible repeat (first | refine blk_drewN ?_ _ | refine blk_drew ?_ | refine blk_alloc ?_ _)); refine blk_far ?_ NB262_273.out _; (with_reducible repeat (first | refine blk_drewN ?_ _ | refine blk_drew ?_ | refine blk_alloc ?_ _)); refine blk_far ?_ NB262_273.out _; exact kA⟩
  have n2_ : Aside0 (((w39.setCell ⟨gb273, 0, none⟩ (.int .u64 t271)).setCell ⟨gb273, 1, none⟩ (.int .u64 t272)).heap[gb263]? = some (.cells #[.int .u64 0, .int .u64 0] 56 (0, 0))) := ⟨by (with_reducible repeat (first | refine blk_drewN ?_ _ | refine blk_drew ?_ | refine blk_alloc ?_ _)); refine blk_far ?_ NB263_273.out _; (with_reducible repeat (first | refine blk_drewN ?_ _ | refine blk_drew ?_ | refine blk_alloc ?_ _)); refine blk_far ?_ NB263_273.out _; exact kA⟩
  have n3_ : Aside0 (((w39.setCell ⟨gb273, 0, none⟩ (.int .u64 t271)).setCell ⟨gb273, 1, none⟩ (.int .u64 t272)).heap[gb269]? = some (.cells #[.int .u64 t267, .int .u64 t268] 56 (0, 0))) := ⟨by (with_reducible repeat (first | refine blk_drewN ?_ _ | refine blk_drew ?_ | refine blk_alloc ?_ _)); refine blk_far ?_ NB269_273.out _; (with_reducible repeat (first | refine blk_drewN ?_ _ | refine blk_drew ?_ | refine blk_alloc ?_ _)); refine blk_far ?_ NB269_273.out _; exact kA⟩
  have n4_ : Aside0 (((w39.setCell ⟨gb273, 0, none⟩ (.int .u64 t271)).setCell ⟨gb273, 1, none⟩ (.int .u64 t272)).heap[gb273]? = some (.cells #[.int .u64 t271, .int .u64 t272] 56 (0, 0))) := ⟨by (with_reducible repeat (first | refine blk_drewN ?_ _ | refine blk_drew ?_ | refine blk_alloc ?_ _)); refine blk_put (cs := #[.int .u64 t271, .int .u64 0]) ?_ 1 _ rfl; (with_reducible repeat (first | refine blk_drewN ?_ _ | refine blk_drew ?_ | refine blk_alloc ?_ _)); refine blk_put (cs := #[.int .u64 0, .int .u64 0]) ?_ 0 _ rfl; exact kA⟩
  have n5_ : Aside0 (Below w.heap.size w ((w39.setCell ⟨gb273, 0, none⟩ (.int .u64 t271)).setCell ⟨gb273, 1, none⟩ (.int .u64 t272))) := ⟨bA⟩
  (try clear BK261); (try clear BK262); (try clear BK263); (try clear BK269); (try clear BK273); (try clear HB)
  generalize ((w39.setCell ⟨gb273, 0, none⟩ (.int .u64 t271)).setCell ⟨gb273, 1, none⟩ (.int .u64 t272)) = w45 at n0_ n1_ n2_ n3_ n4_ n5_ ⊢
  have BK261 := n0_; have BK262 := n1_; have BK263 := n2_; have BK269 := n3_; have BK273 := n4_; have HB := n5_; clear n0_ n1_ n2_ n3_ n4_ n5_; have n0_ := Aside0.mk (blk_drew BK261.out); have n1_ := Aside0.mk (blk_drew BK262.out); have n2_ := Aside0.mk (blk_drew BK263.out); have n3_ := Aside0.mk (blk_drew BK269.out); have n4_ := Aside0.mk (blk_drew BK273.out); have n5_ := Aside0.mk (below_drew1 HB.out); clear BK261 BK262 BK263 BK269 BK273 HB; have BK261 := n0_; have BK262 := n1_; have BK263 := n2_; have BK269 := n3_; have BK273 := n4_; have HB := n5_; clear n0_ n1_ n2_ n3_ n4_ n5_
  refine start_ (n := 11) (S := fun w' => w'.cell? ⟨gb273, 0, none⟩ = some (.int .u64 t271) ∧ w'.cell? ⟨gb273, 1, none⟩ = some (.int .u64 t272) ∧ w'.cell? ⟨gb261, 0, none⟩ = some (.int .i64 a0_0) ∧ w'.cell? ⟨gb261, 1, none⟩ = some (.int .i64 a0_1) ∧ w'.cell? ⟨gb261, 2, none⟩ = some (.int .i64 a0_2) ∧ w'.cell? ⟨gb261, 3, none⟩ = some (.int .i64 a0_3) ∧ w'.cell? ⟨gb261, 4, none⟩ = some (.int .i64 a0_4) ∧ w'.cell? ⟨gb261, 5, none⟩ = some (.int .i64 a0_5) ∧ w'.cell? ⟨gb261, 6, none⟩ = some (.int .i64 a0_6) ∧ w'.cell? ⟨gb261, 7, none⟩ = some (.int .i64 a0_7)) (ds := [10]) #[false, false, false, false, false, false, false, false, false, false, false] (by kernel_rfl) rfl rfl ⟨(blk_cell BK273.out 0).trans rfl, (blk_cell BK273.out 1).trans rfl, (blk_cell BK261.out 0).trans rfl, (blk_cell BK261.out 1).trans rfl, (blk_cell BK261.out 2).trans rfl, (blk_cell BK261.out 3).trans rfl, (blk_cell BK261.out 4).trans rfl, (blk_cell BK261.out 5).trans rfl, (blk_cell BK261.out 6).trans rfl, (blk_cell BK261.out 7).trans rfl⟩ (fun hHeld => ?_); refine with_tabW backfillref11_off.tab5 backfillref11_off.bits5 (fun HT_ HW_ => ?_)
  generalize w45.drew = w46 at BK261 BK262 BK263 BK269 BK273 HB hHeld ⊢
  refine take_ (i := 0) (N := some 20) (v := ?_) (a' := ?_) #[true, false, false, false, false, false, false, false, false, false, false] rfl rfl (take_ofW HT_.out HW_.out (by kernel_rfl)) (fun _ _ _ h => h) (Or.inl ⟨by rfl, ?_⟩) hHeld ?_ ?_
  rotate_left
  ·rintro w' ⟨s0, s1, s2, s3, s4, s5, s6, s7, s8, s9⟩
   go_simp; with_reducible rfl
  rotate_left
  ·simp only [Act.put, List.setIfInBounds_toArray, List.set_cons_zero, List.set_cons_succ, i64_w, i32_w]
   rfl
  refine take_ (i := 1) (N := some 21) (v := ?_) (a' := ?_) #[true, true, false, false, false, false, false, false, false, false, false] rfl rfl (take_ofW HT_.out HW_.out (by kernel_rfl)) (fun _ _ _ h => h) (Or.inl ⟨by rfl, ?_⟩) hHeld ?_ ?_
  rotate_left
  ·rintro w' ⟨s0, s1, s2, s3, s4, s5, s6, s7, s8, s9⟩
   go_simp; with_reducible rfl
  rotate_left
  ·simp only [Act.put, List.setIfInBounds_toArray, List.set_cons_zero, List.set_cons_succ, i64_w, i32_w]
   rfl
  refine one_ (i := 2) (N := some 22) #[true, true, true, false, false, false, false, false, false, false, false] rfl rfl (one_of HT_.out (by kernel_rfl)) (by decide) (fun K hK => ?_)
  refine goes_ Try.func40 (by kernel_rfl) rfl #[.agg #[.int .i64 a0_0, .int .i64 a0_1, .int .i64 a0_2, .int .i64 a0_3, .int .i64 a0_4, .int .i64 a0_5, .int .i64 a0_6, .int .i64 a0_7]] (by rfl) rfl rfl aA ?_
  with_reducible refine (backfillref11_C.calls a0_0 a0_1 a0_2 a0_3 a0_4 a0_5 a0_6 a0_7 t274 _ A18.out).mono ?_
  rintro e w47 ⟨rfl, hb⟩
  refine ⟨_, rfl, ?_⟩; have n0_ := Aside0.mk (blk_below (g := gb261) kA hb); have n1_ := Aside0.mk (blk_below (g := gb262) kA hb); have n2_ := Aside0.mk (blk_below (g := gb263) kA hb); have n3_ := Aside0.mk (blk_below (g := gb269) kA hb); have n4_ := Aside0.mk (blk_below (g := gb273) kA hb); have n5_ := Aside0.mk (below_step bA hb); clear BK261 BK262 BK263 BK269 BK273 HB; have BK261 := n0_; have BK262 := n1_; have BK263 := n2_; have BK269 := n3_; have BK273 := n4_; have HB := n5_; clear n0_ n1_ n2_ n3_ n4_ n5_; (try clear hb)
  refine hK.out _ _ ⟨(blk_cell BK273.out 0).trans rfl, (blk_cell BK273.out 1).trans rfl, (blk_cell BK261.out 0).trans rfl, (blk_cell BK261.out 1).trans rfl, (blk_cell BK261.out 2).trans rfl, (blk_cell BK261.out 3).trans rfl, (blk_cell BK261.out 4).trans rfl, (blk_cell BK261.out 5).trans rfl, (blk_cell BK261.out 6).trans rfl, (blk_cell BK261.out 7).trans rfl⟩ (fun hHeld => ?_)
  clear hK K
  refine norm_ (a' := ?_) ?_ ?_
  rotate_left
  ·show Act.put _ (some 22) _ = _
   simp only [Act.put, List.setIfInBounds_toArray, List.set_cons_zero, List.set_cons_succ, i64_w, i32_w]
   rfl
  refine pure_ (i := 3) (N := some 23) (v := ?_) (a' := ?_) #[true, true, true, true, false, false, false, false, false, false, false] rfl rfl (any_of HT_.out (by kernel_rfl)) (fun _ _ _ h => h) (Or.inl ⟨by rfl, ?_⟩) ?_ ?_
  rotate_left
  ·intro w'
   go_simp; with_reducible rfl
  rotate_left
  ·simp only [Act.put, List.setIfInBounds_toArray, List.set_cons_zero, List.set_cons_succ, i64_w, i32_w]
   rfl
  refine pure_ (i := 4) (N := some 24) (v := ?_) (a' := ?_) #[true, true, true, true, true, false, false, false, false, false, false] rfl rfl (any_of HT_.out (by kernel_rfl)) (fun _ _ _ h => h) (Or.inl ⟨by rfl, ?_⟩) ?_ ?_
  rotate_left
  ·intro w'
   go_simp; with_reducible rfl
  rotate_left
  ·simp only [Act.put, List.setIfInBounds_toArray, List.set_cons_zero, List.set_cons_succ, i64_w, i32_w]
   rfl
  refine one_ (i := 5) (N := some 25) #[true, true, true, true, true, true, false, false, false, false, false] rfl rfl (one_of HT_.out (by kernel_rfl)) (by decide) (fun K hK => ?_)
  refine goes_ Try.func42 (by kernel_rfl) rfl #[.int .u64 (IntKind.u64.wrap (wrap64 (2 * t274)))] (by rfl) rfl rfl aA ?_
  with_reducible refine (backfillref01_Of.calls (IntKind.u64.wrap (wrap64 (2 * t274))) t275 t276 _ A19.out).mono ?_
  rintro e w48 ⟨rfl, hb⟩
  refine ⟨_, rfl, ?_⟩; have n0_ := Aside0.mk (blk_below (g := gb261) kA hb); have n1_ := Aside0.mk (blk_below (g := gb262) kA hb); have n2_ := Aside0.mk (blk_below (g := gb263) kA hb); have n3_ := Aside0.mk (blk_below (g := gb269) kA hb); have n4_ := Aside0.mk (blk_below (g := gb273) kA hb); have n5_ := Aside0.mk (below_step bA hb); clear BK261 BK262 BK263 BK269 BK273 HB; have BK261 := n0_; have BK262 := n1_; have BK263 := n2_; have BK269 := n3_; have BK273 := n4_; have HB := n5_; clear n0_ n1_ n2_ n3_ n4_ n5_; (try clear hb)
  refine hK.out _ _ ⟨(blk_cell BK273.out 0).trans rfl, (blk_cell BK273.out 1).trans rfl, (blk_cell BK261.out 0).trans rfl, (blk_cell BK261.out 1).trans rfl, (blk_cell BK261.out 2).trans rfl, (blk_cell BK261.out 3).trans rfl, (blk_cell BK261.out 4).trans rfl, (blk_cell BK261.out 5).trans rfl, (blk_cell BK261.out 6).trans rfl, (blk_cell BK261.out 7).trans rfl⟩ (fun hHeld => ?_)
  clear hK K
  refine norm_ (a' := ?_) ?_ ?_
  rotate_left
  ·show Act.put _ (some 25) _ = _
   simp only [Act.put, List.setIfInBounds_toArray, List.set_cons_zero, List.set_cons_succ, i64_w, i32_w]
   rfl
  refine one_ (i := 6) (N := some 26) #[true, true, true, true, true, true, true, false, false, false, false] rfl rfl (one_of HT_.out (by kernel_rfl)) (by decide) (fun K hK => ?_)
  refine goes_ Try.func45 (by kernel_rfl) rfl #[.agg #[.int .u64 t271, .int .u64 t272], .agg #[.int .u64 t275, .int .u64 t276]] (by rfl) rfl rfl aA ?_
  with_reducible refine (backfillref01_Add.calls t271 t272 t275 t276 t277 t278 t279 _ A20.out).mono ?_
  rintro e w49 ⟨rfl, hb⟩
  refine ⟨_, rfl, ?_⟩; have n0_ := Aside0.mk (blk_below (g := gb261) kA hb); have n1_ := Aside0.mk (blk_below (g := gb262) kA hb); have n2_ := Aside0.mk (blk_below (g := gb263) kA hb); have n3_ := Aside0.mk (blk_below (g := gb269) kA hb); have n4_ := Aside0.mk (blk_below (g := gb273) kA hb); have n5_ := Aside0.mk (below_step bA hb); clear BK261 BK262 BK263 BK269 BK273 HB; have BK261 := n0_; have BK262 := n1_; have BK263 := n2_; have BK269 := n3_; have BK273 := n4_; have HB := n5_; clear n0_ n1_ n2_ n3_ n4_ n5_; (try clear hb)
  refine hK.out _ _ ⟨(blk_cell BK273.out 0).trans rfl, (blk_cell BK273.out 1).trans rfl, (blk_cell BK261.out 0).trans rfl, (blk_cell BK261.out 1).trans rfl, (blk_cell BK261.out 2).trans rfl, (blk_cell BK261.out 3).trans rfl, (blk_cell BK261.out 4).trans rfl, (blk_cell BK261.out 5).trans rfl, (blk_cell BK261.out 6).trans rfl, (blk_cell BK261.out 7).trans rfl⟩ (fun hHeld => ?_)
  clear hK K
  refine norm_ (a' := ?_) ?_ ?_
  rotate_left
  ·show Act.put _ (some 26) _ = _
   simp only [Act.put, List.setIfInBounds_toArray, List.set_cons_zero, List.set_cons_succ, i64_w, i32_w]
   rfl
  refine pure_ (i := 7) (N := some 19) (v := ?_) (a' := ?_) #[true, true, true, true, true, true, true, true, false, false, false] rfl rfl (any_of HT_.out (by kernel_rfl)) (fun _ _ _ h => h) (Or.inl ⟨by rfl, ?_⟩) ?_ ?_
  rotate_left
  ·intro w'
   go_simp; with_reducible rfl
  rotate_left
  ·simp only [Act.put, List.setIfInBounds_toArray, List.set_cons_zero, List.set_cons_succ, i64_w, i32_w]
   rfl
  refine pure_ (i := 8) (N := some 27) (v := ?_) (a' := ?_) #[true, true, true, true, true, true, true, true, true, false, false] rfl rfl (any_of HT_.out (by kernel_rfl)) (fun _ _ _ h => h) (Or.inl ⟨by rfl, ?_⟩) ?_ ?_
  rotate_left
  ·intro w'
   go_simp; with_reducible rfl
  rotate_left
  ·simp only [Act.put, List.setIfInBounds_toArray, List.set_cons_zero, List.set_cons_succ, i64_w, i32_w]
   rfl
  refine pure_ (i := 9) (N := some 28) (v := ?_) (a' := ?_) #[true, true, true, true, true, true, true, true, true, true, false] rfl rfl (any_of HT_.out (by kernel_rfl)) (fun _ _ _ h => h) (Or.inl ⟨by rfl, ?_⟩) ?_ ?_
  rotate_left
  ·intro w'
   go_simp; with_reducible rfl
  rotate_left
  ·simp only [Act.put, List.setIfInBounds_toArray, List.set_cons_zero, List.set_cons_succ, i64_w, i32_w]
   rfl
  refine last_ (i := 10) (N := none) #[true, true, true, true, true, true, true, true, true, true, true] rfl rfl (one_of HT_.out (by kernel_rfl)) (by decide) (fun K hK => ?_)
  have hs50 : w49.cell? ⟨gb273, 0, none⟩ = some (.int .u64 t271) := (blk_cell BK273.out 0).trans rfl
  have hfs50 := blk_frozen BK273.out 0
  have hns50_0 := NB261_273.out
  have hns50_1 := NB262_273.out
  have hns50_2 := NB263_273.out
  have hns50_3 := NB269_273.out
  have hms50_0 := NB273_261.out
  have hms50_1 := NB273_262.out
  have hms50_2 := NB273_263.out
  have hms50_3 := NB273_269.out
  have hs51 : w49.cell? ⟨gb273, 1, none⟩ = some (.int .u64 t272) := (blk_cell BK273.out 1).trans rfl
  have hfs51 := blk_frozen BK273.out 1
  have hns51_0 := NB261_273.out
  have hns51_1 := NB262_273.out
  have hns51_2 := NB263_273.out
  have hns51_3 := NB269_273.out
  have hms51_0 := NB273_261.out
  have hms51_1 := NB273_262.out
  have hms51_2 := NB273_263.out
  have hms51_3 := NB273_269.out
  refine skip_ (w1 := ?_) (by rfl) rfl ?_ ?_
  rotate_left
  ·go_simp
   rfl
  refine hK.out _ _ ?_
  clear hK K
  refine done_ (done_of HT_.out (by kernel_rfl)) ?_
  have hcz52_0 : w49.cell? ⟨gb273, 0, none⟩ = some (.int .u64 t271) := (blk_cell BK273.out 0).trans rfl
  have hcz52_1 : w49.cell? ⟨gb273, 1, none⟩ = some (.int .u64 t272) := (blk_cell BK273.out 1).trans rfl
  have hfz52_0 := blk_frozen BK273.out 0
  have hfz52_1 := blk_frozen BK273.out 1
  have hcz53_0 : w49.cell? ⟨gb261, 0, none⟩ = some (.int .i64 a0_0) := (blk_cell BK261.out 0).trans rfl
  have hcz53_1 : w49.cell? ⟨gb261, 1, none⟩ = some (.int .i64 a0_1) := (blk_cell BK261.out 1).trans rfl
  have hcz53_2 : w49.cell? ⟨gb261, 2, none⟩ = some (.int .i64 a0_2) := (blk_cell BK261.out 2).trans rfl
  have hcz53_3 : w49.cell? ⟨gb261, 3, none⟩ = some (.int .i64 a0_3) := (blk_cell BK261.out 3).trans rfl
  have hcz53_4 : w49.cell? ⟨gb261, 4, none⟩ = some (.int .i64 a0_4) := (blk_cell BK261.out 4).trans rfl
  have hcz53_5 : w49.cell? ⟨gb261, 5, none⟩ = some (.int .i64 a0_5) := (blk_cell BK261.out 5).trans rfl
  have hcz53_6 : w49.cell? ⟨gb261, 6, none⟩ = some (.int .i64 a0_6) := (blk_cell BK261.out 6).trans rfl
  have hcz53_7 : w49.cell? ⟨gb261, 7, none⟩ = some (.int .i64 a0_7) := (blk_cell BK261.out 7).trans rfl
  have hfz53_0 := blk_frozen BK261.out 0
  have hfz53_1 := blk_frozen BK261.out 1
  have hfz53_2 := blk_frozen BK261.out 2
  have hfz53_3 := blk_frozen BK261.out 3
  have hfz53_4 := blk_frozen BK261.out 4
  have hfz53_5 := blk_frozen BK261.out 5
  have hfz53_6 := blk_frozen BK261.out 6
  have hfz53_7 := blk_frozen BK261.out 7
  try go_wp2_with (first | ((with_reducible refine gate_callee (f := 28) rfl ?_); refine goesL_ (some 34) rfl rfl Try.func28 (by kernel_rfl) rfl #[.agg #[.int .u64 t277, .int .u64 t278], .int .u64 (IntKind.u64.wrap (a0_4))] rfl aA ?_; (with_reducible refine (backfillref01_Times.calls t277 t278 (IntKind.u64.wrap (a0_4)) t280 t281 t282 _ A21.out).mono ?_); rintro e w54 ⟨rfl, hb⟩; refine ⟨_, rfl, ?_⟩; have n0_ := Aside0.mk (blk_below (g := gb261) (o := .cells #[.int .i64 a0_0, .int .i64 a0_1, .int .i64 a0_2, .int .i64 a0_3, .int .i64 a0_4, .int .i64 a0_5, .int .i64 a0_6, .int .i64 a0_7] 31 (0, 0)) (by (with_reducible repeat (first | refine blk_drewN ?_ _ | refine blk_drew ?_ | refine blk_alloc ?_ _)); refine blk_far ?_ NB261_273.out _; (with_reducible repeat (first | refine blk_drewN ?_ _ | refine blk_drew ?_ | refine blk_alloc ?_ _)); refine blk_far ?_ NB261_273.out _; exact kA) hb); have n1_ := Aside0.mk (blk_below (g := gb262) (o := .cells #[.int .u64 0, .int .u64 0] 56 (0, 0)) (by (with_reducible repeat (first | refine blk_drewN ?_ _ | refine blk_drew ?_ | refine blk_alloc ?_ _)); refine blk_far ?_ NB262_273.out _; (with_reducible repeat (first | refine blk_drewN ?_ _ | refine blk_drew ?_ | refine blk_alloc ?_ _)); refine blk_far ?_ NB262_273.out _; exact kA) hb); have n2_ := Aside0.mk (blk_below (g := gb263) (o := .cells #[.int .u64 0, .int .u64 0] 56 (0, 0)) (by (with_reducible repeat (first | refine blk_drewN ?_ _ | refine blk_drew ?_ | refine blk_alloc ?_ _)); refine blk_far ?_ NB263_273.out _; (with_reducible repeat (first | refine blk_drewN ?_ _ | refine blk_drew ?_ | refine blk_alloc ?_ _)); refine blk_far ?_ NB263_273.out _; exact kA) hb); have n3_ := Aside0.mk (blk_below (g := gb269) (o := .cells #[.int .u64 t267, .int .u64 t268] 56 (0, 0)) (by (with_reducible repeat (first | refine blk_drewN ?_ _ | refine blk_drew ?_ | refine blk_alloc ?_ _)); refine blk_far ?_ NB269_273.out _; (with_reducible repeat (first | refine blk_drewN ?_ _ | refine blk_drew ?_ | refine blk_alloc ?_ _)); refine blk_far ?_ NB269_273.out _; exact kA) hb); have n4_ := Aside0.mk (blk_below (g := gb273) (o := .cells #[.int .u64 t277, .int .u64 t278] 56 (0, 0)) (by (with_reducible repeat (first | refine blk_drewN ?_ _ | refine blk_drew ?_ | refine blk_alloc ?_ _)); refine blk_put (cs := #[.int .u64 t277, .int .u64 t272]) ?_ 1 _ rfl; (with_reducible repeat (first | refine blk_drewN ?_ _ | refine blk_drew ?_ | refine blk_alloc ?_ _)); refine blk_put (cs := #[.int .u64 t271, .int .u64 t272]) ?_ 0 _ rfl; exact kA) hb); have n5_ := Aside0.mk (below_step bA hb); clear BK261 BK262 BK263 BK269 BK273 HB; have BK261 := n0_; have BK262 := n1_; have BK263 := n2_; have BK269 := n3_; have BK273 := n4_; have HB := n5_; clear n0_ n1_ n2_ n3_ n4_ n5_; (try clear hb); have hcz55_0 : w54.cell? ⟨gb273, 0, none⟩ = some (.int .u64 t277) := (blk_cell BK273.out 0).trans rfl; have hcz55_1 : w54.cell? ⟨gb273, 1, none⟩ = some (.int .u64 t278) := (blk_cell BK273.out 1).trans rfl; have hfz55_0 := blk_frozen BK273.out 0; have hfz55_1 := blk_frozen BK273.out 1; have hcz56_0 : w54.cell? ⟨gb269, 0, none⟩ = some (.int .u64 t267) := (blk_cell BK269.out 0).trans rfl; have hcz56_1 : w54.cell? ⟨gb269, 1, none⟩ = some (.int .u64 t268) := (blk_cell BK269.out 1).trans rfl; have hfz56_0 := blk_frozen BK269.out 0; have hfz56_1 := blk_frozen BK269.out 1) | ((with_reducible refine gate_callee (f := 45) rfl ?_); refine goesL_ (some 40) rfl rfl Try.func45 (by kernel_rfl) rfl #[.agg #[.int .u64 t280, .int .u64 t281], .agg #[.int .u64 t267, .int .u64 t268]] rfl aA ?_; (with_reducible refine (backfillref01_Add.calls t280 t281 t267 t268 t283 t284 t285 _ A22.out).mono ?_); rintro e w57 ⟨rfl, hb⟩; refine ⟨_, rfl, ?_⟩; have n0_ := Aside0.mk (blk_below (g := gb261) (o := .cells #[.int .i64 a0_0, .int .i64 a0_1, .int .i64 a0_2, .int .i64 a0_3, .int .i64 a0_4, .int .i64 a0_5, .int .i64 a0_6, .int .i64 a0_7] 31 (0, 0)) (by (with_reducible repeat (first | refine blk_drewN ?_ _ | refine blk_drew ?_ | refine blk_alloc ?_ _)); refine blk_far ?_ NB261_273.out _; (with_reducible repeat (first | refine blk_drewN ?_ _ | refine blk_drew ?_ | refine blk_alloc ?_ _)); refine blk_far ?_ NB261_273.out _; exact kA) hb); have n1_ := Aside0.mk (blk_below (g := gb262) (o := .cells #[.int .u64 0, .int .u64 0] 56 (0, 0)) (by (with_reducible repeat (first | refine blk_drewN ?_ _ | refine blk_drew ?_ | refine blk_alloc ?_ _)); refine blk_far ?_ NB262_273.out _; (with_reducible repeat (first | refine blk_drewN ?_ _ | refine blk_drew ?_ | refine blk_alloc ?_ _)); refine blk_far ?_ NB262_273.out _; exact kA) hb); have n2_ := Aside0.mk (blk_below (g := gb263) (o := .cells #[.int .u64 0, .int .u64 0] 56 (0, 0)) (by (with_reducible repeat (first | refine blk_drewN ?_ _ | refine blk_drew ?_ | refine blk_alloc ?_ _)); refine blk_far ?_ NB263_273.out _; (with_reducible repeat (first | refine blk_drewN ?_ _ | refine blk_drew ?_ | refine blk_alloc ?_ _)); refine blk_far ?_ NB263_273.out _; exact kA) hb); have n3_ := Aside0.mk (blk_below (g := gb269) (o := .cells #[.int .u64 t267, .int .u64 t268] 56 (0, 0)) (by (with_reducible repeat (first | refine blk_drewN ?_ _ | refine blk_drew ?_ | refine blk_alloc ?_ _)); refine blk_far ?_ NB269_273.out _; (with_reducible repeat (first | refine blk_drewN ?_ _ | refine blk_drew ?_ | refine blk_alloc ?_ _)); refine blk_far ?_ NB269_273.out _; exact kA) hb); have n4_ := Aside0.mk (blk_below (g := gb273) (o := .cells #[.int .u64 t280, .int .u64 t281] 56 (0, 0)) (by (with_reducible repeat (first | refine blk_drewN ?_ _ | refine blk_drew ?_ | refine blk_alloc ?_ _)); refine blk_put (cs := #[.int .u64 t280, .int .u64 t278]) ?_ 1 _ rfl; (with_reducible repeat (first | refine blk_drewN ?_ _ | refine blk_drew ?_ | refine blk_alloc ?_ _)); refine blk_put (cs := #[.int .u64 t277, .int .u64 t278]) ?_ 0 _ rfl; exact kA) hb); have n5_ := Aside0.mk (below_step bA hb); clear BK261 BK262 BK263 BK269 BK273 HB; have BK261 := n0_; have BK262 := n1_; have BK263 := n2_; have BK269 := n3_; have BK273 := n4_; have HB := n5_; clear n0_ n1_ n2_ n3_ n4_ n5_; (try clear hb); have hcz58_0 : w57.cell? ⟨gb273, 0, none⟩ = some (.int .u64 t280) := (blk_cell BK273.out 0).trans rfl; have hcz58_1 : w57.cell? ⟨gb273, 1, none⟩ = some (.int .u64 t281) := (blk_cell BK273.out 1).trans rfl; have hfz58_0 := blk_frozen BK273.out 0; have hfz58_1 := blk_frozen BK273.out 1))
  have n0_ : Aside0 (((w57.setCell ⟨gb273, 0, none⟩ (.int .u64 t283)).setCell ⟨gb273, 1, none⟩ (.int .u64 t284)).heap[gb261]? = some (.cells #[.int .i64 a0_0, .int .i64 a0_1, .int .i64 a0_2, .int .i64 a0_3, .int .i64 a0_4, .int .i64 a0_5, .int .i64 a0_6, .int .i64 a0_7] 31 (0, 0))) := ⟨by (with_reducible repeat (first | refine blk_drewN ?_ _ | refine blk_drew ?_ | refine blk_alloc ?_ _)); refine blk_far ?_ NB261_273.out _; (with_reducible repeat (first | refine blk_drewN ?_ _ | refine blk_drew ?_ | refine blk_alloc ?_ _)); refine blk_far ?_ NB261_273.out _; exact kA⟩
  have n1_ : Aside0 (((w57.setCell ⟨gb273, 0, none⟩ (.int .u64 t283)).setCell ⟨gb273, 1, none⟩ (.int .u64 t284)).heap[gb262]? = some (.cells #[.int .u64 0, .int .u64 0] 56 (0, 0))) := ⟨by (with_reducible repeat (first | refine blk_drewN ?_ _ | refine blk_drew ?_ | refine blk_alloc ?_ _)); refine blk_far ?_ NB262_273.out _; (with_reducible repeat (first | refine blk_drewN ?_ _ | refine blk_drew ?_ | refine blk_alloc ?_ _)); refine blk_far ?_ NB262_273.out _; exact kA⟩
  have n2_ : Aside0 (((w57.setCell ⟨gb273, 0, none⟩ (.int .u64 t283)).setCell ⟨gb273, 1, none⟩ (.int .u64 t284)).heap[gb263]? = some (.cells #[.int .u64 0, .int .u64 0] 56 (0, 0))) := ⟨by (with_reducible repeat (first | refine blk_drewN ?_ _ | refine blk_drew ?_ | refine blk_alloc ?_ _)); refine blk_far ?_ NB263_273.out _; (with_reducible repeat (first | refine blk_drewN ?_ _ | refine blk_drew ?_ | refine blk_alloc ?_ _)); refine blk_far ?_ NB263_273.out _; exact kA⟩
  have n3_ : Aside0 (((w57.setCell ⟨gb273, 0, none⟩ (.int .u64 t283)).setCell ⟨gb273, 1, none⟩ (.int .u64 t284)).heap[gb269]? = some (.cells #[.int .u64 t267, .int .u64 t268] 56 (0, 0))) := ⟨by (with_reducible repeat (first | refine blk_drewN ?_ _ | refine blk_drew ?_ | refine blk_alloc ?_ _)); refine blk_far ?_ NB269_273.out _; (with_reducible repeat (first | refine blk_drewN ?_ _ | refine blk_drew ?_ | refine blk_alloc ?_ _)); refine blk_far ?_ NB269_273.out _; exact kA⟩
  have n4_ : Aside0 (((w57.setCell ⟨gb273, 0, none⟩ (.int .u64 t283)).setCell ⟨gb273, 1, none⟩ (.int .u64 t284)).heap[gb273]? = some (.cells #[.int .u64 t283, .int .u64 t284] 56 (0, 0))) := ⟨by (with_reducible repeat (first | refine blk_drewN ?_ _ | refine blk_drew ?_ | refine blk_alloc ?_ _)); refine blk_put (cs := #[.int .u64 t283, .int .u64 t281]) ?_ 1 _ rfl; (with_reducible repeat (first | refine blk_drewN ?_ _ | refine blk_drew ?_ | refine blk_alloc ?_ _)); refine blk_put (cs := #[.int .u64 t280, .int .u64 t281]) ?_ 0 _ rfl; exact kA⟩
  have n5_ : Aside0 (Below w.heap.size w ((w57.setCell ⟨gb273, 0, none⟩ (.int .u64 t283)).setCell ⟨gb273, 1, none⟩ (.int .u64 t284))) := ⟨bA⟩
  (try clear BK261); (try clear BK262); (try clear BK263); (try clear BK269); (try clear BK273); (try clear HB)
  generalize ((w57.setCell ⟨gb273, 0, none⟩ (.int .u64 t283)).setCell ⟨gb273, 1, none⟩ (.int .u64 t284)) = w59 at n0_ n1_ n2_ n3_ n4_ n5_ ⊢
  have BK261 := n0_; have BK262 := n1_; have BK263 := n2_; have BK269 := n3_; have BK273 := n4_; have HB := n5_; clear n0_ n1_ n2_ n3_ n4_ n5_; have n0_ := Aside0.mk (blk_drew BK261.out); have n1_ := Aside0.mk (blk_drew BK262.out); have n2_ := Aside0.mk (blk_drew BK263.out); have n3_ := Aside0.mk (blk_drew BK269.out); have n4_ := Aside0.mk (blk_drew BK273.out); have n5_ := Aside0.mk (below_drew1 HB.out); clear BK261 BK262 BK263 BK269 BK273 HB; have BK261 := n0_; have BK262 := n1_; have BK263 := n2_; have BK269 := n3_; have BK273 := n4_; have HB := n5_; clear n0_ n1_ n2_ n3_ n4_ n5_
  refine start_ (n := 4) (S := fun w' => w'.cell? ⟨gb273, 0, none⟩ = some (.int .u64 t283) ∧ w'.cell? ⟨gb273, 1, none⟩ = some (.int .u64 t284) ∧ w'.cell? ⟨gb269, 0, none⟩ = some (.int .u64 t267) ∧ w'.cell? ⟨gb269, 1, none⟩ = some (.int .u64 t268)) (ds := []) #[false, false, false, false] (by kernel_rfl) rfl rfl ⟨(blk_cell BK273.out 0).trans rfl, (blk_cell BK273.out 1).trans rfl, (blk_cell BK269.out 0).trans rfl, (blk_cell BK269.out 1).trans rfl⟩ (fun hHeld => ?_)
  generalize w59.drew = w60 at BK261 BK262 BK263 BK269 BK273 HB hHeld ⊢
  refine take_ (i := 0) (N := some 43) (v := ?_) (a' := ?_) #[true, false, false, false] rfl rfl (by kernel_rfl) (fun _ _ _ h => h) (Or.inl ⟨by rfl, ?_⟩) hHeld ?_ ?_
  rotate_left
  ·rintro w' ⟨s0, s1, s2, s3⟩
   go_simp; with_reducible rfl
  rotate_left
  ·simp only [Act.put, List.setIfInBounds_toArray, List.set_cons_zero, List.set_cons_succ, i64_w, i32_w]
   rfl
  refine take_ (i := 1) (N := some 44) (v := ?_) (a' := ?_) #[true, true, false, false] rfl rfl (by kernel_rfl) (fun _ _ _ h => h) (Or.inl ⟨by rfl, ?_⟩) hHeld ?_ ?_
  rotate_left
  ·rintro w' ⟨s0, s1, s2, s3⟩
   go_simp; with_reducible rfl
  rotate_left
  ·simp only [Act.put, List.setIfInBounds_toArray, List.set_cons_zero, List.set_cons_succ, i64_w, i32_w]
   rfl
  refine one_ (i := 2) (N := none) #[true, true, true, false] rfl rfl (by kernel_rfl) (by decide) (fun K hK => ?_)
  have hs61 : w60.cell? ⟨gb262, 0, none⟩ = some (.int .u64 0) := (blk_cell BK262.out 0).trans rfl
  have hfs61 := blk_frozen BK262.out 0
  have hns61_0 := NB261_262.out
  have hns61_2 := NB263_262.out
  have hns61_3 := NB269_262.out
  have hns61_4 := NB273_262.out
  have hms61_0 := NB262_261.out
  have hms61_2 := NB262_263.out
  have hms61_3 := NB262_269.out
  have hms61_4 := NB262_273.out
  have hs62 : w60.cell? ⟨gb262, 1, none⟩ = some (.int .u64 0) := (blk_cell BK262.out 1).trans rfl
  have hfs62 := blk_frozen BK262.out 1
  have hns62_0 := NB261_262.out
  have hns62_2 := NB263_262.out
  have hns62_3 := NB269_262.out
  have hns62_4 := NB273_262.out
  have hms62_0 := NB262_261.out
  have hms62_2 := NB262_263.out
  have hms62_3 := NB262_269.out
  have hms62_4 := NB262_273.out
  refine skip_ (w1 := ?_) (by rfl) rfl ?_ ?_
  rotate_left
  ·go_simp
   rfl
  refine hK.out _ _ ⟨((cell_far (p := ⟨gb262, _, none⟩) NB273_262.out _).trans (((cell_far (p := ⟨gb262, _, none⟩) NB273_262.out _).trans (hHeld.1)))), ((cell_far (p := ⟨gb262, _, none⟩) NB273_262.out _).trans (((cell_far (p := ⟨gb262, _, none⟩) NB273_262.out _).trans (hHeld.2.1)))), ((cell_far (p := ⟨gb262, _, none⟩) NB269_262.out _).trans (((cell_far (p := ⟨gb262, _, none⟩) NB269_262.out _).trans (hHeld.2.2.1)))), ((cell_far (p := ⟨gb262, _, none⟩) NB269_262.out _).trans (((cell_far (p := ⟨gb262, _, none⟩) NB269_262.out _).trans (hHeld.2.2.2))))⟩ (fun hHeld => ?_)
  clear hK K
  refine one_ (i := 3) (N := none) #[true, true, true, true] rfl rfl (by kernel_rfl) (by decide) (fun K hK => ?_)
  have hs63 : w60.cell? ⟨gb263, 0, none⟩ = some (.int .u64 0) := (blk_cell BK263.out 0).trans rfl
  have hfs63 := blk_frozen BK263.out 0
  have hns63_0 := NB261_263.out
  have hns63_1 := NB262_263.out
  have hns63_3 := NB269_263.out
  have hns63_4 := NB273_263.out
  have hms63_0 := NB263_261.out
  have hms63_1 := NB263_262.out
  have hms63_3 := NB263_269.out
  have hms63_4 := NB263_273.out
  have hs64 : w60.cell? ⟨gb263, 1, none⟩ = some (.int .u64 0) := (blk_cell BK263.out 1).trans rfl
  have hfs64 := blk_frozen BK263.out 1
  have hns64_0 := NB261_263.out
  have hns64_1 := NB262_263.out
  have hns64_3 := NB269_263.out
  have hns64_4 := NB273_263.out
  have hms64_0 := NB263_261.out
  have hms64_1 := NB263_262.out
  have hms64_3 := NB263_269.out
  have hms64_4 := NB263_273.out
  refine skip_ (w1 := ?_) (by rfl) rfl ?_ ?_
  rotate_left
  ·go_simp
   rfl
  refine hK.out _ _ ⟨((cell_far (p := ⟨gb263, _, none⟩) NB273_263.out _).trans (((cell_far (p := ⟨gb263, _, none⟩) NB273_263.out _).trans (hHeld.1)))), ((cell_far (p := ⟨gb263, _, none⟩) NB273_263.out _).trans (((cell_far (p := ⟨gb263, _, none⟩) NB273_263.out _).trans (hHeld.2.1)))), ((cell_far (p := ⟨gb263, _, none⟩) NB269_263.out _).trans (((cell_far (p := ⟨gb263, _, none⟩) NB269_263.out _).trans (hHeld.2.2.1)))), ((cell_far (p := ⟨gb263, _, none⟩) NB269_263.out _).trans (((cell_far (p := ⟨gb263, _, none⟩) NB269_263.out _).trans (hHeld.2.2.2))))⟩ (fun hHeld => ?_)
  clear hK K
  refine done_ (by kernel_rfl) ?_
  try go_wp2
  refine bodyPost_ret (results_cc rfl _ _ gb262 gb263 56 56 #[.int .u64 t283, .int .u64 t284] #[.int .u64 t267, .int .u64 t268] (0, 0) (0, 0) _ _ rfl (by (with_reducible repeat (first | refine blk_drewN ?_ _ | refine blk_drew ?_ | refine blk_alloc ?_ _)); refine blk_far ?_ NB262_263.out _; (with_reducible repeat (first | refine blk_drewN ?_ _ | refine blk_drew ?_ | refine blk_alloc ?_ _)); refine blk_far ?_ NB262_263.out _; (with_reducible repeat (first | refine blk_drewN ?_ _ | refine blk_drew ?_ | refine blk_alloc ?_ _)); refine blk_put (cs := #[.int .u64 t283, .int .u64 0]) ?_ 1 _ rfl; (with_reducible repeat (first | refine blk_drewN ?_ _ | refine blk_drew ?_ | refine blk_alloc ?_ _)); refine blk_put (cs := #[.int .u64 0, .int .u64 0]) ?_ 0 _ rfl; exact kA) Try.underlying56 rfl (by kernel_rfl) rfl (by (with_reducible repeat (first | refine blk_drewN ?_ _ | refine blk_drew ?_ | refine blk_alloc ?_ _)); refine blk_put (cs := #[.int .u64 t267, .int .u64 0]) ?_ 1 _ rfl; (with_reducible repeat (first | refine blk_drewN ?_ _ | refine blk_drew ?_ | refine blk_alloc ?_ _)); refine blk_put (cs := #[.int .u64 0, .int .u64 0]) ?_ 0 _ rfl; (with_reducible repeat (first | refine blk_drewN ?_ _ | refine blk_drew ?_ | refine blk_alloc ?_ _)); refine blk_far ?_ NB263_262.out _; (with_reducible repeat (first | refine blk_drewN ?_ _ | refine blk_drew ?_ | refine blk_alloc ?_ _)); refine blk_far ?_ NB263_262.out _; exact kA) Try.underlying56 rfl (by kernel_rfl)) rfl ?_
  exact ⟨by first | rfl | (simp [errW_none, errW_some] <;> rfl) | (simp [*, errW_none, errW_some] <;> rfl), bA⟩

/-! ### backfillref11_lead: function 31 -/
def backfillref11_lead.f (a0_0 : Int) (a0_1 : Int) (a0_2 : Int) (a0_3 : Int) (a0_4 : Int) (a0_5 : Int) (a0_6 : Int) (a0_7 : Int) : Option (Int) := if a0_3 = 0 then (none) else (some (wrap64 (Int.tdiv (wrap64 (a0_4 + (wrap64 (a0_5 * a0_0)))) a0_3)))
set_option maxHeartbeats 8000000 in
set_option maxRecDepth 100000 in
theorem backfillref11_lead.calls (a0_0 : Int) (a0_1 : Int) (a0_2 : Int) (a0_3 : Int) (a0_4 : Int) (a0_5 : Int) (a0_6 : Int) (a0_7 : Int) (r : Int) (w : World) (h : backfillref11_lead.f a0_0 a0_1 a0_2 a0_3 a0_4 a0_5 a0_6 a0_7 = some r) :
  Calls Try.prog 31 #[.agg #[.int .i64 a0_0, .int .i64 a0_1, .int .i64 a0_2, .int .i64 a0_3, .int .i64 a0_4, .int .i64 a0_5, .int .i64 a0_6, .int .i64 a0_7]] w fun e w' => e = .returned (.int .i64 r) ∧ Below w.heap.size w w' := by
 have hu31 := Try.underlying31
 have HB := Aside0.mk (Below.refl w.heap.size w)
 have H : (if a0_3 = 0 then (none) else (some (wrap64 (Int.tdiv (wrap64 (a0_4 + (wrap64 (a0_5 * a0_0)))) a0_3)))) = some r := h
 clear h
 by_cases c2 : a0_3 = 0
 ·rw [if_pos c2] at H
  exact absurd H (by simp)
 ·rw [if_neg c2] at H
  have c2b0 : (a0_3 == 0) = false := beq_eq_false_iff_ne.mpr c2
  have c2b1 : (a0_3 != 0) = true := bne_iff_ne.mpr c2
  obtain rfl := Option.some.inj H
  go_enter Try.func31, Try.ntmps31
  go_wp2_with (first | ((with_reducible refine gate_dst (N := 1) rfl ?_); refine bxA 1 #[.int .i64 a0_0, .int .i64 a0_1, .int .i64 a0_2, .int .i64 a0_3, .int .i64 a0_4, .int .i64 a0_5, .int .i64 a0_6, .int .i64 a0_7] 31 ?_; intro gb286 hg w3 hbox hb; have n0_ := Aside0.mk (below_step bA hb); have n1_ := Aside0.mk (hbox); have n2_ := Aside0.mk (gwA hg bA); have n3_ := Aside0.mk (gwA hg bA); clear HB; have HB := n0_; have BK286 := n1_; have GW286 := n2_; have GE286 := n3_; clear n0_ n1_ n2_ n3_ hb hbox hg; have hcz4_0 : w3.cell? ⟨gb286, 0, none⟩ = some (.int .i64 a0_0) := (blk_cell BK286.out 0).trans rfl; have hcz4_1 : w3.cell? ⟨gb286, 1, none⟩ = some (.int .i64 a0_1) := (blk_cell BK286.out 1).trans rfl; have hcz4_2 : w3.cell? ⟨gb286, 2, none⟩ = some (.int .i64 a0_2) := (blk_cell BK286.out 2).trans rfl; have hcz4_3 : w3.cell? ⟨gb286, 3, none⟩ = some (.int .i64 a0_3) := (blk_cell BK286.out 3).trans rfl; have hcz4_4 : w3.cell? ⟨gb286, 4, none⟩ = some (.int .i64 a0_4) := (blk_cell BK286.out 4).trans rfl; have hcz4_5 : w3.cell? ⟨gb286, 5, none⟩ = some (.int .i64 a0_5) := (blk_cell BK286.out 5).trans rfl; have hcz4_6 : w3.cell? ⟨gb286, 6, none⟩ = some (.int .i64 a0_6) := (blk_cell BK286.out 6).trans rfl; have hcz4_7 : w3.cell? ⟨gb286, 7, none⟩ = some (.int .i64 a0_7) := (blk_cell BK286.out 7).trans rfl; have hfz4_0 := blk_frozen BK286.out 0; have hfz4_1 := blk_frozen BK286.out 1; have hfz4_2 := blk_frozen BK286.out 2; have hfz4_3 := blk_frozen BK286.out 3; have hfz4_4 := blk_frozen BK286.out 4; have hfz4_5 := blk_frozen BK286.out 5; have hfz4_6 := blk_frozen BK286.out 6; have hfz4_7 := blk_frozen BK286.out 7))
  go_ret
  exact ⟨by first | rfl | (simp [errW_none, errW_some] <;> rfl) | (simp [*, errW_none, errW_some] <;> rfl), bA⟩

/-! ### backfillref11_bound: function 29 -/
def backfillref11_bound.f (a0_0 : Int) (a0_1 : Int) (a0_2 : Int) (a0_3 : Int) (a0_4 : Int) (a0_5 : Int) (a0_6 : Int) (a0_7 : Int) : Option (Int) := (backfillref11_lead.f a0_0 a0_1 a0_2 a0_3 a0_4 a0_5 a0_6 a0_7).bind fun t288 => (some (wrap64 ((wrap64 (t288 + 1)) + (wrap64 (a0_1 * a0_2)))))
def backfillref11_bound.T1 : Bool × List (List Nat × List Nat) := (true, [([], []), ([0], [0]), ([1], [1]), ([], []), ([3], [3]), ([], []), ([5], [5]), ([4, 6], [4, 6]), ([2, 7], [2, 7]), ([8, 1, 0, 1, 2, 3, 4, 5, 6, 7, 8], [8])])
def backfillref11_bound.B1 : List Nat := [0, 1, 3, 0, 8, 0, 32, 120, 255, 511]
theorem backfillref11_bound.tab1 : rtab .any (opsOf Try.f29 1) = backfillref11_bound.T1 := by kernel_rfl
theorem backfillref11_bound.bits1 : waitsOk backfillref11_bound.T1.2 backfillref11_bound.B1 = true := by kernel_rfl
set_option maxHeartbeats 8000000 in
set_option maxRecDepth 100000 in
theorem backfillref11_bound.calls (a0_0 : Int) (a0_1 : Int) (a0_2 : Int) (a0_3 : Int) (a0_4 : Int) (a0_5 : Int) (a0_6 : Int) (a0_7 : Int) (r : Int) (w : World) (h : backfillref11_bound.f a0_0 a0_1 a0_2 a0_3 a0_4 a0_5 a0_6 a0_7 = some r) :
  Calls Try.prog 29 #[.agg #[.int .i64 a0_0, .int .i64 a0_1, .int .i64 a0_2, .int .i64 a0_3, .int .i64 a0_4, .int .i64 a0_5, .int .i64 a0_6, .int .i64 a0_7]] w fun e w' => e = .returned (.int .i64 r) ∧ Below w.heap.size w w' := by
 have hu31 := Try.underlying31
 have HB := Aside0.mk (Below.refl w.heap.size w)
 have H : ((backfillref11_lead.f a0_0 a0_1 a0_2 a0_3 a0_4 a0_5 a0_6 a0_7).bind fun t288 => (some (wrap64 ((wrap64 (t288 + 1)) + (wrap64 (a0_1 * a0_2)))))) = some r := h
 clear h; replace H := Option.bind_eq_some_iff.mp H; obtain ⟨t288, A20, H⟩ := H; replace H : (some (wrap64 ((wrap64 (t288 + 1)) + (wrap64 (a0_1 * a0_2))))) = some r := H; have A2 := Aside0.mk A20; clear A20
 obtain rfl := Option.some.inj H
 go_enter Try.func29, Try.ntmps29
 try go_wp2_with (first | ((with_reducible refine gate_dst (N := 1) rfl ?_); refine bxA 1 #[.int .i64 a0_0, .int .i64 a0_1, .int .i64 a0_2, .int .i64 a0_3, .int .i64 a0_4, .int .i64 a0_5, .int .i64 a0_6, .int .i64 a0_7] 31 ?_; intro gb287 hg w3 hbox hb; have n0_ := Aside0.mk (below_step bA hb); have n1_ := Aside0.mk (hbox); have n2_ := Aside0.mk (gwA hg bA); have n3_ := Aside0.mk (gwA hg bA); clear HB; have HB := n0_; have BK287 := n1_; have GW287 := n2_; have GE287 := n3_; clear n0_ n1_ n2_ n3_ hb hbox hg))
 have n0_ := Aside0.mk (blk_drew BK287.out); have n1_ := Aside0.mk (below_drew1 HB.out); clear BK287 HB; have BK287 := n0_; have HB := n1_; clear n0_ n1_
 refine start_ (n := 10) (S := fun w' => w'.cell? ⟨gb287, 0, none⟩ = some (.int .i64 a0_0) ∧ w'.cell? ⟨gb287, 1, none⟩ = some (.int .i64 a0_1) ∧ w'.cell? ⟨gb287, 2, none⟩ = some (.int .i64 a0_2) ∧ w'.cell? ⟨gb287, 3, none⟩ = some (.int .i64 a0_3) ∧ w'.cell? ⟨gb287, 4, none⟩ = some (.int .i64 a0_4) ∧ w'.cell? ⟨gb287, 5, none⟩ = some (.int .i64 a0_5) ∧ w'.cell? ⟨gb287, 6, none⟩ = some (.int .i64 a0_6) ∧ w'.cell? ⟨gb287, 7, none⟩ = some (.int .i64 a0_7)) (ds := []) #[false, false, false, false, false, false, false, false, false, false] (by kernel_rfl) rfl rfl ⟨(blk_cell BK287.out 0).trans rfl, (blk_cell BK287.out 1).trans rfl, (blk_cell BK287.out 2).trans rfl, (blk_cell BK287.out 3).trans rfl, (blk_cell BK287.out 4).trans rfl, (blk_cell BK287.out 5).trans rfl, (blk_cell BK287.out 6).trans rfl, (blk_cell BK287.out 7).trans rfl⟩ (fun hHeld => ?_); refine with_tabW backfillref11_bound.tab1 backfillref11_bound.bits1 (fun HT_ HW_ => ?_)
 generalize w3.drew = w4 at BK287 HB hHeld ⊢
 refine pure_ (i := 3) (N := some 6) (v := ?_) (a' := ?_) #[false, false, false, true, false, false, false, false, false, false] rfl rfl (any_of HT_.out (by kernel_rfl)) (fun _ _ _ h => h) (Or.inl ⟨by rfl, ?_⟩) ?_ ?_
 rotate_left
 ·intro w'
  go_simp; with_reducible rfl
 rotate_left
 ·simp only [Act.put, List.setIfInBounds_toArray, List.set_cons_zero, List.set_cons_succ, i64_w, i32_w]
  rfl
 refine pure_ (i := 5) (N := some 8) (v := ?_) (a' := ?_) #[false, false, false, true, false, true, false, false, false, false] rfl rfl (any_of HT_.out (by kernel_rfl)) (fun _ _ _ h => h) (Or.inl ⟨by rfl, ?_⟩) ?_ ?_
 rotate_left
 ·intro w'
  go_simp; with_reducible rfl
 rotate_left
 ·simp only [Act.put, List.setIfInBounds_toArray, List.set_cons_zero, List.set_cons_succ, i64_w, i32_w]
  rfl
 refine take_ (i := 0) (N := some 3) (v := ?_) (a' := ?_) #[true, false, false, true, false, true, false, false, false, false] rfl rfl (take_ofW HT_.out HW_.out (by kernel_rfl)) (fun _ _ _ h => h) (Or.inl ⟨by rfl, ?_⟩) hHeld ?_ ?_
 rotate_left
 ·rintro w' ⟨s0, s1, s2, s3, s4, s5, s6, s7⟩
  go_simp; with_reducible rfl
 rotate_left
 ·simp only [Act.put, List.setIfInBounds_toArray, List.set_cons_zero, List.set_cons_succ, i64_w, i32_w]
  rfl
 refine take_ (i := 4) (N := some 7) (v := ?_) (a' := ?_) #[true, false, false, true, true, true, false, false, false, false] rfl rfl (take_ofW HT_.out HW_.out (by kernel_rfl)) (fun _ _ _ h => h) (Or.inl ⟨by rfl, ?_⟩) hHeld ?_ ?_
 rotate_left
 ·rintro w' ⟨s0, s1, s2, s3, s4, s5, s6, s7⟩
  go_simp; with_reducible rfl
 rotate_left
 ·simp only [Act.put, List.setIfInBounds_toArray, List.set_cons_zero, List.set_cons_succ, i64_w, i32_w]
  rfl
 refine take_ (i := 6) (N := some 9) (v := ?_) (a' := ?_) #[true, false, false, true, true, true, true, false, false, false] rfl rfl (take_ofW HT_.out HW_.out (by kernel_rfl)) (fun _ _ _ h => h) (Or.inl ⟨by rfl, ?_⟩) hHeld ?_ ?_
 rotate_left
 ·rintro w' ⟨s0, s1, s2, s3, s4, s5, s6, s7⟩
  go_simp; with_reducible rfl
 rotate_left
 ·simp only [Act.put, List.setIfInBounds_toArray, List.set_cons_zero, List.set_cons_succ, i64_w, i32_w]
  rfl
 refine pure_ (i := 7) (N := some 10) (v := ?_) (a' := ?_) #[true, false, false, true, true, true, true, true, false, false] rfl rfl (any_of HT_.out (by kernel_rfl)) (fun _ _ _ h => h) (Or.inl ⟨by rfl, ?_⟩) ?_ ?_
 rotate_left
 ·intro w'
  go_simp; with_reducible rfl
 rotate_left
 ·simp only [Act.put, List.setIfInBounds_toArray, List.set_cons_zero, List.set_cons_succ, i64_w, i32_w]
  rfl
 refine one_ (i := 1) (N := some 4) #[true, true, false, true, true, true, true, true, false, false] rfl rfl (one_of HT_.out (by kernel_rfl)) (by decide) (fun K hK => ?_)
 refine goes_ Try.func31 (by kernel_rfl) rfl #[.agg #[.int .i64 a0_0, .int .i64 a0_1, .int .i64 a0_2, .int .i64 a0_3, .int .i64 a0_4, .int .i64 a0_5, .int .i64 a0_6, .int .i64 a0_7]] (by rfl) rfl rfl aA ?_
 with_reducible refine (backfillref11_lead.calls a0_0 a0_1 a0_2 a0_3 a0_4 a0_5 a0_6 a0_7 t288 _ A2.out).mono ?_
 rintro e w5 ⟨rfl, hb⟩
 refine ⟨_, rfl, ?_⟩; have n0_ := Aside0.mk (blk_below (g := gb287) kA hb); have n1_ := Aside0.mk (below_step bA hb); clear BK287 HB; have BK287 := n0_; have HB := n1_; clear n0_ n1_; (try clear hb)
 refine hK.out _ _ ⟨(blk_cell BK287.out 0).trans rfl, (blk_cell BK287.out 1).trans rfl, (blk_cell BK287.out 2).trans rfl, (blk_cell BK287.out 3).trans rfl, (blk_cell BK287.out 4).trans rfl, (blk_cell BK287.out 5).trans rfl, (blk_cell BK287.out 6).trans rfl, (blk_cell BK287.out 7).trans rfl⟩ (fun hHeld => ?_)
 clear hK K
 refine norm_ (a' := ?_) ?_ ?_
 rotate_left
 ·show Act.put _ (some 4) _ = _
  simp only [Act.put, List.setIfInBounds_toArray, List.set_cons_zero, List.set_cons_succ, i64_w, i32_w]
  rfl
 refine pure_ (i := 2) (N := some 5) (v := ?_) (a' := ?_) #[true, true, true, true, true, true, true, true, false, false] rfl rfl (any_of HT_.out (by kernel_rfl)) (fun _ _ _ h => h) (Or.inl ⟨by rfl, ?_⟩) ?_ ?_
 rotate_left
 ·intro w'
  go_simp; with_reducible rfl
 rotate_left
 ·simp only [Act.put, List.setIfInBounds_toArray, List.set_cons_zero, List.set_cons_succ, i64_w, i32_w]
  rfl
 refine pure_ (i := 8) (N := some 11) (v := ?_) (a' := ?_) #[true, true, true, true, true, true, true, true, true, false] rfl rfl (any_of HT_.out (by kernel_rfl)) (fun _ _ _ h => h) (Or.inl ⟨by rfl, ?_⟩) ?_ ?_
 rotate_left
 ·intro w'
  go_simp; with_reducible rfl
 rotate_left
 ·simp only [Act.put, List.setIfInBounds_toArray, List.set_cons_zero, List.set_cons_succ, i64_w, i32_w]
  rfl
 refine pure_ (i := 9) (N := some 2) (v := ?_) (a' := ?_) #[true, true, true, true, true, true, true, true, true, true] rfl rfl (any_of HT_.out (by kernel_rfl)) (fun _ _ _ h => h) (Or.inl ⟨by rfl, ?_⟩) ?_ ?_
 rotate_left
 ·intro w'
  go_simp; with_reducible rfl
 rotate_left
 ·simp only [Act.put, List.setIfInBounds_toArray, List.set_cons_zero, List.set_cons_succ, i64_w, i32_w]
  rfl
 refine done_ (done_of HT_.out (by kernel_rfl)) ?_
 try go_wp2
 go_ret
 exact ⟨by first | rfl | (simp [errW_none, errW_some] <;> rfl) | (simp [*, errW_none, errW_some] <;> rfl), bA⟩

/-! ### backfillref01_Cmp: function 30 -/
def backfillref01_Cmp.j0 : Nat → Bool → Int → Int → Int → Int → Option (Int)
 | 0, _, _, _, _, _ => none
 | k + 1, x23, x290000, x290001, x291000, x291001 => if x23 = true then (some (-1)) else (if (x290000 == x291000 && (x290001 == x291001)) = true then (some 0) else (some 1))
def backfillref01_Cmp.f (k : Nat) (a0_0 : Int) (a0_1 : Int) (a1_0 : Int) (a1_1 : Int) : Option (Int) := if a0_0 < a1_0 then (backfillref01_Cmp.j0 k true a0_0 a0_1 a1_0 a1_1) else (if a0_0 = a1_0 then (backfillref01_Cmp.j0 k (decide (a0_1 < a1_1)) a0_0 a0_1 a1_0 a1_1) else (backfillref01_Cmp.j0 k false a0_0 a0_1 a1_0 a1_1))
theorem backfillref01_Cmp.mono_l : ∀ k, (∀ y0 y1 y2 y3 y4, LeO (backfillref01_Cmp.j0 k y0 y1 y2 y3 y4) (backfillref01_Cmp.j0 (k + 1) y0 y1 y2 y3 y4))
 | 0 => fun _ _ _ _ _ r h => by simp [backfillref01_Cmp.j0] at h
 | k + 1 => by
  have ih0 := backfillref01_Cmp.mono_l k
  ·intro y0 y1 y2 y3 y4
   unfold backfillref01_Cmp.j0
   repeat' first
   | (with_reducible exact ih0 _ _ _ _ _)
   | (with_reducible exact LeO.refl _)
   | (with_reducible exact LeO.none _)
   | (with_reducible refine LeO.ite ?_ ?_)
   | (with_reducible refine LeO.bind ?_ (fun _ => ?_))
   | exact ih0 _ _ _ _ _
   | exact LeO.none _
   | refine LeO.ite ?_ ?_
   | refine LeO.bind ?_ (fun _ => ?_)
theorem backfillref01_Cmp.mono : ∀ a0 a1 a2 a3 k, LeO (backfillref01_Cmp.f k a0 a1 a2 a3) (backfillref01_Cmp.f (k + 1) a0 a1 a2 a3) := by
 intro a0 a1 a2 a3 k
 have ih0 := backfillref01_Cmp.mono_l k
 unfold backfillref01_Cmp.f
 repeat' first
   | (with_reducible exact ih0 _ _ _ _ _)
   | (with_reducible exact LeO.refl _)
   | (with_reducible exact LeO.none _)
   | (with_reducible refine LeO.ite ?_ ?_)
   | (with_reducible refine LeO.bind ?_ (fun _ => ?_))
   | exact ih0 _ _ _ _ _
   | exact LeO.none _
   | refine LeO.ite ?_ ?_
   | refine LeO.bind ?_ (fun _ => ?_)
set_option maxHeartbeats 8000000 in
set_option maxRecDepth 100000 in
theorem backfillref01_Cmp.calls (k : Nat) (a0_0 : Int) (a0_1 : Int) (a1_0 : Int) (a1_1 : Int) (r : Int) (w : World) (h : backfillref01_Cmp.f k a0_0 a0_1 a1_0 a1_1 = some r) :
  Calls Try.prog 30 #[.agg #[.int .u64 a0_0, .int .u64 a0_1], .agg #[.int .u64 a1_0, .int .u64 a1_1]] w fun e w' => e = .returned (.int .i64 r) ∧ Below w.heap.size w w' := by
 have hu56 := Try.underlying56
 have HB := Aside0.mk (Below.refl w.heap.size w)
 have H : (if a0_0 < a1_0 then (backfillref01_Cmp.j0 k true a0_0 a0_1 a1_0 a1_1) else (if a0_0 = a1_0 then (backfillref01_Cmp.j0 k (decide (a0_1 < a1_1)) a0_0 a0_1 a1_0 a1_1) else (backfillref01_Cmp.j0 k false a0_0 a0_1 a1_0 a1_1))) = some r := h
 clear h
 have HC3 := Aside0.mk H
 clear H
 go_enter Try.func30, Try.ntmps30
 go_upto_region 1 with (first | ((with_reducible refine gate_dst (N := 2) rfl ?_); refine bxA 2 #[.int .u64 a0_0, .int .u64 a0_1] 56 ?_; intro gb289 hg w4 hbox hb; have n0_ := Aside0.mk (below_step bA hb); have n1_ := Aside0.mk (hbox); have n2_ := Aside0.mk (gwA hg bA); have n3_ := Aside0.mk (gwA hg bA); clear HB; have HB := n0_; have BK289 := n1_; have GW289 := n2_; have GE289 := n3_; clear n0_ n1_ n2_ n3_ hb hbox hg) | ((with_reducible refine gate_dst (N := 3) rfl ?_); refine bxA 3 #[.int .u64 a1_0, .int .u64 a1_1] 56 ?_; intro gb290 hg w5 hbox hb; have n0_ := Aside0.mk (blk_below (g := gb289) kA hb); have n1_ := Aside0.mk (below_step bA hb); have n2_ := Aside0.mk (hbox); have n3_ := Aside0.mk (gwA hg bA); have n4_ := Aside0.mk (gwA hg bA); have n5_ := Aside0.mk (neA (g := gb289) hg kA); have n6_ := Aside0.mk (neB (g := gb289) hg kA); clear BK289 HB; have BK289 := n0_; have HB := n1_; have BK290 := n2_; have GW290 := n3_; have GE290 := n4_; have NB289_290 := n5_; have NB290_289 := n6_; clear n0_ n1_ n2_ n3_ n4_ n5_ n6_ hb hbox hg))
 (try simp only [Act.put, List.setIfInBounds_toArray, List.set_cons_zero, List.set_cons_succ])
 go_cut [23] (fun v23 wc => ∃ (kq : Nat) (x23_2 : Bool), v23 = .bool x23_2 ∧ Aside0 (backfillref01_Cmp.j0 kq x23_2 a0_0 a0_1 a1_0 a1_1 = some r) ∧ Aside0 (kq ≤ k) ∧ Aside0 (wc.heap[gb289]? = some (.cells #[.int .u64 a0_0, .int .u64 a0_1] 56 (0, 0))) ∧ Aside0 (wc.heap[gb290]? = some (.cells #[.int .u64 a1_0, .int .u64 a1_1] 56 (0, 0))) ∧ Aside0 (Below w.heap.size w wc))
 case first =>
  have H := HC3.out
  clear HC3
  by_cases c6 : a0_0 < a1_0
  ·rw [if_pos c6] at H
   have c6b0 : decide (a0_0 < a1_0) = true := decide_eq_true c6
   clear c6
   (first | rw [c6b0] | (simp only [i64_w, i32_w]; rw [c6b0]) | skip)
   have H' := Aside0.mk H
   clear H
   have hnb7 := NB289_290.out
   have hnc7 := NB290_289.out
   have hcz8_0 : w5.cell? ⟨gb289, 0, none⟩ = some (.int .u64 a0_0) := (blk_cell BK289.out 0).trans rfl
   have hcz8_1 : w5.cell? ⟨gb289, 1, none⟩ = some (.int .u64 a0_1) := (blk_cell BK289.out 1).trans rfl
   have hfz8_0 := blk_frozen BK289.out 0
   have hfz8_1 := blk_frozen BK289.out 1
   have hcz9_0 : w5.cell? ⟨gb290, 0, none⟩ = some (.int .u64 a1_0) := (blk_cell BK290.out 0).trans rfl
   have hcz9_1 : w5.cell? ⟨gb290, 1, none⟩ = some (.int .u64 a1_1) := (blk_cell BK290.out 1).trans rfl
   have hfz9_0 := blk_frozen BK290.out 0
   have hfz9_1 := blk_frozen BK290.out 1
   go_wp2
   go_meet
   case rel => exact ⟨_, (true), (by first | rfl | (simp; done) | (simp [*]; done)), H', ⟨by first | omega | exact Nat.le_refl _⟩, ⟨by exact kA⟩, ⟨by exact kA⟩, ⟨bA⟩⟩
  ·rw [if_neg c6] at H
   have c6b0 : decide (a0_0 < a1_0) = false := decide_eq_false c6
   clear c6
   (first | rw [c6b0] | (simp only [i64_w, i32_w]; rw [c6b0]) | skip)
   by_cases c10 : a0_0 = a1_0
   ·rw [if_pos c10] at H
    have c10b0 : (a0_0 == a1_0) = true := beq_iff_eq.mpr c10
    have c10b1 : (a0_0 != a1_0) = false := bne_eq_false_iff_eq.mpr c10
    clear c10
    have H' := Aside0.mk H
    clear H
    have hnb11 := NB289_290.out
    have hnc11 := NB290_289.out
    have hcz12_0 : w5.cell? ⟨gb289, 0, none⟩ = some (.int .u64 a0_0) := (blk_cell BK289.out 0).trans rfl
    have hcz12_1 : w5.cell? ⟨gb289, 1, none⟩ = some (.int .u64 a0_1) := (blk_cell BK289.out 1).trans rfl
    have hfz12_0 := blk_frozen BK289.out 0
    have hfz12_1 := blk_frozen BK289.out 1
    have hcz13_0 : w5.cell? ⟨gb290, 0, none⟩ = some (.int .u64 a1_0) := (blk_cell BK290.out 0).trans rfl
    have hcz13_1 : w5.cell? ⟨gb290, 1, none⟩ = some (.int .u64 a1_1) := (blk_cell BK290.out 1).trans rfl
    have hfz13_0 := blk_frozen BK290.out 0
    have hfz13_1 := blk_frozen BK290.out 1
    go_wp2
    go_meet
    case rel => exact ⟨_, (decide (a0_1 < a1_1)), (by first | rfl | (simp; done) | (simp [*]; done)), H', ⟨by first | omega | exact Nat.le_refl _⟩, ⟨by exact kA⟩, ⟨by exact kA⟩, ⟨bA⟩⟩
   ·rw [if_neg c10] at H
    have c10b0 : (a0_0 == a1_0) = false := beq_eq_false_iff_ne.mpr c10
    have c10b1 : (a0_0 != a1_0) = true := bne_iff_ne.mpr c10
    have H' := Aside0.mk H
    clear H
    have hnb14 := NB289_290.out
    have hnc14 := NB290_289.out
    have hcz15_0 : w5.cell? ⟨gb289, 0, none⟩ = some (.int .u64 a0_0) := (blk_cell BK289.out 0).trans rfl
    have hcz15_1 : w5.cell? ⟨gb289, 1, none⟩ = some (.int .u64 a0_1) := (blk_cell BK289.out 1).trans rfl
    have hfz15_0 := blk_frozen BK289.out 0
    have hfz15_1 := blk_frozen BK289.out 1
    have hcz16_0 : w5.cell? ⟨gb290, 0, none⟩ = some (.int .u64 a1_0) := (blk_cell BK290.out 0).trans rfl
    have hcz16_1 : w5.cell? ⟨gb290, 1, none⟩ = some (.int .u64 a1_1) := (blk_cell BK290.out 1).trans rfl
    have hfz16_0 := blk_frozen BK290.out 0
    have hfz16_1 := blk_frozen BK290.out 1
    go_wp2
    go_meet
    case rel => exact ⟨_, (false), (by first | rfl | (simp; done) | (simp [*]; done)), H', ⟨by first | omega | exact Nat.le_refl _⟩, ⟨by exact kA⟩, ⟨by exact kA⟩, ⟨bA⟩⟩
 case rest =>
  clear HC3
  try clear c1
  try clear p2
  try clear c3
  try clear c6
  try clear c6b0
  try clear c7
  try clear c10
  try clear c10b0
  try clear c10b1
  try clear c11
  try clear c14
  try clear hcz12_0
  try clear hcz12_1
  try clear hcz13_0
  try clear hcz13_1
  try clear hcz15_0
  try clear hcz15_1
  try clear hcz16_0
  try clear hcz16_1
  try clear hcz8_0
  try clear hcz8_1
  try clear hcz9_0
  try clear hcz9_1
  try clear hfz12_0
  try clear hfz12_1
  try clear hfz13_0
  try clear hfz13_1
  try clear hfz15_0
  try clear hfz15_1
  try clear hfz16_0
  try clear hfz16_1
  try clear hfz8_0
  try clear hfz8_1
  try clear hfz9_0
  try clear hfz9_1
  obtain ⟨kq, x23_2, rfl, HA, HJ2, BK289, BK290, HB⟩ := hcut
  cases kq with
  | zero => exact absurd HA.out (by simp [backfillref01_Cmp.j0])
  | succ kj2 =>
   have H := HA.out
   clear HA
   simp only [backfillref01_Cmp.j0] at H
   by_cases c17 : x23_2 = true
   ·subst c17
    have H1 : (some (-1)) = some r := by rw [if_pos rfl] at H; exact H
    clear H
    have H := H1
    clear H1
    obtain rfl := Option.some.inj H
    go_wp2
    go_ret
    exact ⟨by first | rfl | (simp [errW_none, errW_some] <;> rfl) | (simp [*, errW_none, errW_some] <;> rfl), bA⟩
   ·replace c17 := Bool.eq_false_iff.mpr c17
    subst c17
    have H1 : (if (a0_0 == a1_0 && (a0_1 == a1_1)) = true then (some 0) else (some 1)) = some r := by rw [if_neg (show ¬ (false = true) by decide)] at H; exact H
    clear H
    have H := H1
    clear H1
    by_cases c18 : (a0_0 == a1_0 && (a0_1 == a1_1)) = true
    ·rw [if_pos c18] at H
     have c18b0 : (a0_0 == a1_0 && (a0_1 == a1_1)) = true := c18
     (try (have c18b1 : decide (a0_0 = a1_0 && (a0_1 == a1_1)) = true := by simpa using c18))
     (try (have c18b2 : (a0_0 == a1_0 && (a0_1 == a1_1)) = true := by simpa using c18))
     clear c18
     obtain rfl := Option.some.inj H
     have hnb19 := NB289_290.out
     have hnc19 := NB290_289.out
     have hcz20_0 : wc.cell? ⟨gb289, 0, none⟩ = some (.int .u64 a0_0) := (blk_cell BK289.out 0).trans rfl
     have hcz20_1 : wc.cell? ⟨gb289, 1, none⟩ = some (.int .u64 a0_1) := (blk_cell BK289.out 1).trans rfl
     have hfz20_0 := blk_frozen BK289.out 0
     have hfz20_1 := blk_frozen BK289.out 1
     have hcz21_0 : wc.cell? ⟨gb290, 0, none⟩ = some (.int .u64 a1_0) := (blk_cell BK290.out 0).trans rfl
     have hcz21_1 : wc.cell? ⟨gb290, 1, none⟩ = some (.int .u64 a1_1) := (blk_cell BK290.out 1).trans rfl
     have hfz21_0 := blk_frozen BK290.out 0
     have hfz21_1 := blk_frozen BK290.out 1
     go_wp2
     go_ret
     exact ⟨by first | rfl | (simp [errW_none, errW_some] <;> rfl) | (simp [*, errW_none, errW_some] <;> rfl), bA⟩
    ·rw [if_neg c18] at H
     have c18b0 : (a0_0 == a1_0 && (a0_1 == a1_1)) = false := by simpa using c18
     (try (have c18b1 : decide (a0_0 = a1_0 && (a0_1 == a1_1)) = false := by simpa using c18))
     (try (have c18b2 : (a0_0 == a1_0 && (a0_1 == a1_1)) = false := by simpa using c18))
     (try (have c18b3 : ¬ (a0_0 = a1_0 && (a0_1 == a1_1)) := by simpa using c18))
     clear c18
     obtain rfl := Option.some.inj H
     have hnb22 := NB289_290.out
     have hnc22 := NB290_289.out
     have hcz23_0 : wc.cell? ⟨gb289, 0, none⟩ = some (.int .u64 a0_0) := (blk_cell BK289.out 0).trans rfl
     have hcz23_1 : wc.cell? ⟨gb289, 1, none⟩ = some (.int .u64 a0_1) := (blk_cell BK289.out 1).trans rfl
     have hfz23_0 := blk_frozen BK289.out 0
     have hfz23_1 := blk_frozen BK289.out 1
     have hcz24_0 : wc.cell? ⟨gb290, 0, none⟩ = some (.int .u64 a1_0) := (blk_cell BK290.out 0).trans rfl
     have hcz24_1 : wc.cell? ⟨gb290, 1, none⟩ = some (.int .u64 a1_1) := (blk_cell BK290.out 1).trans rfl
     have hfz24_0 := blk_frozen BK290.out 0
     have hfz24_1 := blk_frozen BK290.out 1
     go_wp2
     go_ret
     exact ⟨by first | rfl | (simp [errW_none, errW_some] <;> rfl) | (simp [*, errW_none, errW_some] <;> rfl), bA⟩

end Go.Proofs.Ytodibpddlibneaa.GPT
