-- Laid by a program of this session (wip/tools/pr.py): contracts and pure functions; Lean checks it.
import Derived.Test.YtbhijfbjdbjpbaaDoorGSHx0
import Derived.Test.YtbhijfbjdbjpbaaDoorGSHx3
import Derived.Test.YtbhijfbjdbjpbaaDoorGSHx4
import Derived.Test.YtbhijfbjdbjpbaaDoorGSHx5
import Derived.Test.YtbhijfbjdbjpbaaDoorGSHx6
namespace Go.Proofs.YtbhijfbjdbjpbaaDoor.GSH
open Go.RowKit Go.Proofs.YtbhijfbjdbjpbaaDoorW.PrintWords Go.Proofs.YtbhijfbjdbjpbaaDoorW.PrintLast Go.Proofs.YtbhijfbjdbjpbaaDoorW.PrintMore
attribute [local go_sem] max2_int min2_int max_two min_two max_three min_three max_four min_four   -- for this text's walks alone
set_option linter.unusedVariables false
set_option linter.unusedSimpArgs false

/-! ### config_asked_off: function 37 -/
def config_asked_off.f (a0_0 : Int) (a0_1 : Int) (a0_2 : Int) (a0_3 : Int) (a0_4 : Int) (a0_5 : Int) (a0_6 : Int) (a0_7 : Int) : Option (Int) := (config_asked_bounds.f a0_0 a0_1 a0_2 a0_3 a0_4 a0_5 a0_6 a0_7).bind fun bt186 => ((wide_Times.f bt186.1 bt186.2.1 1000).bind fun bt192 => ((config_asked_bound.f a0_0 a0_1 a0_2 a0_3 a0_4 a0_5 a0_6 a0_7).bind fun t196 => ((config_asked_fairSize.f a0_0 a0_1 a0_2 a0_3 a0_4 a0_5 a0_6 a0_7).bind fun t197 => ((wide_Times.f bt186.2.2.1 bt186.2.2.2 (IntKind.u64.wrap (wrap64 ((wrap64 (a0_3 * t196)) + t197)))).bind fun bt198 => ((wide_Cmp.f bt192.1 bt192.2.1 bt198.1 bt198.2.1).bind fun t202 => (if t202 > 0 then (some 113) else (some 0)))))))
def config_asked_off.T3 : Bool × List (List Nat × List Nat) := (true, [([], []), ([], []), ([1], [1]), ([2], [2]), ([], []), ([4], [4]), ([3, 5], [3, 5]), ([], []), ([7, 5], [7]), ([6, 8], [6, 8]), ([9], [9]), ([0, 10, 8], [0, 10]), ([11], [11]), ([12], [12]), ([12], [12]), ([], []), ([15, 13, 11, 0, 1, 2, 3, 4, 5, 6, 7, 8, 9, 10, 11, 12, 13, 15], [13, 15]), ([14, 16, 0, 1, 2, 3, 4, 5, 6, 7, 8, 9, 10, 11, 12, 13, 14, 15, 16], [14])])
def config_asked_off.B3 : List Nat := [0, 0, 2, 6, 0, 16, 62, 0, 176, 510, 1022, 2047, 4095, 8191, 8191, 0, 49151, 131071]
theorem config_asked_off.tab3 : rtab .any (opsOf Tryd.f37 3) = config_asked_off.T3 := by kernel_rfl
theorem config_asked_off.bits3 : waitsOk config_asked_off.T3.2 config_asked_off.B3 = true := by kernel_rfl
set_option maxHeartbeats 8000000 in
set_option maxRecDepth 100000 in
theorem config_asked_off.calls (a0_0 : Int) (a0_1 : Int) (a0_2 : Int) (a0_3 : Int) (a0_4 : Int) (a0_5 : Int) (a0_6 : Int) (a0_7 : Int) (r : Int) (w : World) (h : config_asked_off.f a0_0 a0_1 a0_2 a0_3 a0_4 a0_5 a0_6 a0_7 = some r) :
  Calls Tryd.prog 37 #[.agg #[.int .i64 a0_0, .int .i64 a0_1, .int .i64 a0_2, .int .i64 a0_3, .int .i64 a0_4, .int .i64 a0_5, .int .i64 a0_6, .int .i64 a0_7]] w fun e w' => e = .returned (.int .i64 r) ∧ Below w.heap.size w w' := by
 have hu69 := Tryd.underlying69
 have hu76 := Tryd.underlying76
 have HB := Aside0.mk (Below.refl w.heap.size w)
 have H : ((config_asked_bounds.f a0_0 a0_1 a0_2 a0_3 a0_4 a0_5 a0_6 a0_7).bind fun bt186 => ((wide_Times.f bt186.1 bt186.2.1 1000).bind fun bt192 => ((config_asked_bound.f a0_0 a0_1 a0_2 a0_3 a0_4 a0_5 a0_6 a0_7).bind fun t196 => ((config_asked_fairSize.f a0_0 a0_1 a0_2 a0_3 a0_4 a0_5 a0_6 a0_7).bind fun t197 => ((wide_Times.f bt186.2.2.1 bt186.2.2.2 (IntKind.u64.wrap (wrap64 ((wrap64 (a0_3 * t196)) + t197)))).bind fun bt198 => ((wide_Cmp.f bt192.1 bt192.2.1 bt198.1 bt198.2.1).bind fun t202 => (if t202 > 0 then (some 113) else (some 0)))))))) = some r := h
 clear h; replace H := Option.bind_eq_some_iff.mp H; obtain ⟨⟨t186, t187, t188, t189⟩, A20, H⟩ := H; replace H : ((wide_Times.f t186 t187 1000).bind fun bt192 => ((config_asked_bound.f a0_0 a0_1 a0_2 a0_3 a0_4 a0_5 a0_6 a0_7).bind fun t196 => ((config_asked_fairSize.f a0_0 a0_1 a0_2 a0_3 a0_4 a0_5 a0_6 a0_7).bind fun t197 => ((wide_Times.f t188 t189 (IntKind.u64.wrap (wrap64 ((wrap64 (a0_3 * t196)) + t197)))).bind fun bt198 => ((wide_Cmp.f bt192.1 bt192.2.1 bt198.1 bt198.2.1).bind fun t202 => (if t202 > 0 then (some 113) else (some 0))))))) = some r := H; have A2 := Aside0.mk A20; clear A20; replace H := Option.bind_eq_some_iff.mp H; obtain ⟨⟨t192, t193, t194⟩, A30, H⟩ := H; replace H : ((config_asked_bound.f a0_0 a0_1 a0_2 a0_3 a0_4 a0_5 a0_6 a0_7).bind fun t196 => ((config_asked_fairSize.f a0_0 a0_1 a0_2 a0_3 a0_4 a0_5 a0_6 a0_7).bind fun t197 => ((wide_Times.f t188 t189 (IntKind.u64.wrap (wrap64 ((wrap64 (a0_3 * t196)) + t197)))).bind fun bt198 => ((wide_Cmp.f t192 t193 bt198.1 bt198.2.1).bind fun t202 => (if t202 > 0 then (some 113) else (some 0)))))) = some r := H; have A3 := Aside0.mk A30; clear A30; replace H := Option.bind_eq_some_iff.mp H; obtain ⟨t196, A40, H⟩ := H; replace H : ((config_asked_fairSize.f a0_0 a0_1 a0_2 a0_3 a0_4 a0_5 a0_6 a0_7).bind fun t197 => ((wide_Times.f t188 t189 (IntKind.u64.wrap (wrap64 ((wrap64 (a0_3 * t196)) + t197)))).bind fun bt198 => ((wide_Cmp.f t192 t193 bt198.1 bt198.2.1).bind fun t202 => (if t202 > 0 then (some 113) else (some 0))))) = some r := H; have A4 := Aside0.mk A40; clear A40; replace H := Option.bind_eq_some_iff.mp H; obtain ⟨t197, A50, H⟩ := H; replace H : ((wide_Times.f t188 t189 (IntKind.u64.wrap (wrap64 ((wrap64 (a0_3 * t196)) + t197)))).bind fun bt198 => ((wide_Cmp.f t192 t193 bt198.1 bt198.2.1).bind fun t202 => (if t202 > 0 then (some 113) else (some 0)))) = some r := H; have A5 := Aside0.mk A50; clear A50; replace H := Option.bind_eq_some_iff.mp H; obtain ⟨⟨t198, t199, t200⟩, A60, H⟩ := H; replace H : ((wide_Cmp.f t192 t193 t198 t199).bind fun t202 => (if t202 > 0 then (some 113) else (some 0))) = some r := H; have A6 := Aside0.mk A60; clear A60; replace H := Option.bind_eq_some_iff.mp H; obtain ⟨t202, A70, H⟩ := H; replace H : (if t202 > 0 then (some 113) else (some 0)) = some r := H; have A7 := Aside0.mk A70; clear A70
 by_cases c8 : t202 > 0
 ·rw [if_pos c8] at H
  have c8b0 : decide (0 < t202) = true := decide_eq_true c8
  clear c8
  obtain rfl := Option.some.inj H
  go_enter Tryd.func37, Tryd.ntmps37
  try go_wp2_with (first | ((with_reducible refine gate_dst (N := 1) rfl ?_); refine bxA 1 #[.int .i64 a0_0, .int .i64 a0_1, .int .i64 a0_2, .int .i64 a0_3, .int .i64 a0_4, .int .i64 a0_5, .int .i64 a0_6, .int .i64 a0_7] 69 ?_; intro gb185 hg w9 hbox hb; have n0_ := Aside0.mk (below_step bA hb); have n1_ := Aside0.mk (hbox); have n2_ := Aside0.mk (gwA hg bA); have n3_ := Aside0.mk (gwA hg bA); clear HB; have HB := n0_; have BK185 := n1_; have GW185 := n2_; have GE185 := n3_; clear n0_ n1_ n2_ n3_ hb hbox hg; have hcz10_0 : w9.cell? ⟨gb185, 0, none⟩ = some (.int .i64 a0_0) := (blk_cell BK185.out 0).trans rfl; have hcz10_1 : w9.cell? ⟨gb185, 1, none⟩ = some (.int .i64 a0_1) := (blk_cell BK185.out 1).trans rfl; have hcz10_2 : w9.cell? ⟨gb185, 2, none⟩ = some (.int .i64 a0_2) := (blk_cell BK185.out 2).trans rfl; have hcz10_3 : w9.cell? ⟨gb185, 3, none⟩ = some (.int .i64 a0_3) := (blk_cell BK185.out 3).trans rfl; have hcz10_4 : w9.cell? ⟨gb185, 4, none⟩ = some (.int .i64 a0_4) := (blk_cell BK185.out 4).trans rfl; have hcz10_5 : w9.cell? ⟨gb185, 5, none⟩ = some (.int .i64 a0_5) := (blk_cell BK185.out 5).trans rfl; have hcz10_6 : w9.cell? ⟨gb185, 6, none⟩ = some (.int .i64 a0_6) := (blk_cell BK185.out 6).trans rfl; have hcz10_7 : w9.cell? ⟨gb185, 7, none⟩ = some (.int .i64 a0_7) := (blk_cell BK185.out 7).trans rfl; have hfz10_0 := blk_frozen BK185.out 0; have hfz10_1 := blk_frozen BK185.out 1; have hfz10_2 := blk_frozen BK185.out 2; have hfz10_3 := blk_frozen BK185.out 3; have hfz10_4 := blk_frozen BK185.out 4; have hfz10_5 := blk_frozen BK185.out 5; have hfz10_6 := blk_frozen BK185.out 6; have hfz10_7 := blk_frozen BK185.out 7) | ((with_reducible refine gate_callee (f := 65) rfl ?_); refine goesL_ (some 11) rfl rfl Tryd.func65 (by kernel_rfl) rfl #[.agg #[.int .i64 a0_0, .int .i64 a0_1, .int .i64 a0_2, .int .i64 a0_3, .int .i64 a0_4, .int .i64 a0_5, .int .i64 a0_6, .int .i64 a0_7]] rfl aA ?_; (with_reducible refine (config_asked_bounds.calls a0_0 a0_1 a0_2 a0_3 a0_4 a0_5 a0_6 a0_7 t186 t187 t188 t189 _ A2.out).mono ?_); rintro e w11 ⟨rfl, hb⟩; refine ⟨_, rfl, ?_⟩; have n0_ := Aside0.mk (blk_below (g := gb185) kA hb); have n1_ := Aside0.mk (below_step bA hb); clear BK185 HB; have BK185 := n0_; have HB := n1_; clear n0_ n1_; (try clear hb)) | ((with_reducible refine gate_dst (N := 3) rfl ?_); refine bxA 3 #[.int .u64 0, .int .u64 0] 76 ?_; intro gb190 hg w12 hbox hb; have n0_ := Aside0.mk (blk_below (g := gb185) kA hb); have n1_ := Aside0.mk (below_step bA hb); have n2_ := Aside0.mk (hbox); have n3_ := Aside0.mk (gwA hg bA); have n4_ := Aside0.mk (gwA hg bA); have n5_ := Aside0.mk (neA (g := gb185) hg kA); have n6_ := Aside0.mk (neB (g := gb185) hg kA); clear BK185 HB; have BK185 := n0_; have HB := n1_; have BK190 := n2_; have GW190 := n3_; have GE190 := n4_; have NB185_190 := n5_; have NB190_185 := n6_; clear n0_ n1_ n2_ n3_ n4_ n5_ n6_ hb hbox hg) | ((with_reducible refine gate_dst (N := 4) rfl ?_); refine bxA 4 #[.int .u64 0, .int .u64 0] 76 ?_; intro gb191 hg w13 hbox hb; have n0_ := Aside0.mk (blk_below (g := gb185) kA hb); have n1_ := Aside0.mk (blk_below (g := gb190) kA hb); have n2_ := Aside0.mk (below_step bA hb); have n3_ := Aside0.mk (hbox); have n4_ := Aside0.mk (gwA hg bA); have n5_ := Aside0.mk (gwA hg bA); have n6_ := Aside0.mk (neA (g := gb185) hg kA); have n7_ := Aside0.mk (neB (g := gb185) hg kA); have n8_ := Aside0.mk (neA (g := gb190) hg kA); have n9_ := Aside0.mk (neB (g := gb190) hg kA); clear BK185 BK190 HB; have BK185 := n0_; have BK190 := n1_; have HB := n2_; have BK191 := n3_; have GW191 := n4_; have GE191 := n5_; have NB185_191 := n6_; have NB191_185 := n7_; have NB190_191 := n8_; have NB191_190 := n9_; clear n0_ n1_ n2_ n3_ n4_ n5_ n6_ n7_ n8_ n9_ hb hbox hg; have hnb14 := NB190_185.out; have hnc14 := NB185_190.out; have hnb15 := NB190_191.out; have hnc15 := NB191_190.out; have hcz16_0 : w13.cell? ⟨gb190, 0, none⟩ = some (.int .u64 0) := (blk_cell BK190.out 0).trans rfl; have hcz16_1 : w13.cell? ⟨gb190, 1, none⟩ = some (.int .u64 0) := (blk_cell BK190.out 1).trans rfl; have hfz16_0 := blk_frozen BK190.out 0; have hfz16_1 := blk_frozen BK190.out 1; have hnb17 := NB191_185.out; have hnc17 := NB185_191.out; have hcz18_0 : w13.cell? ⟨gb191, 0, none⟩ = some (.int .u64 0) := (blk_cell BK191.out 0).trans rfl; have hcz18_1 : w13.cell? ⟨gb191, 1, none⟩ = some (.int .u64 0) := (blk_cell BK191.out 1).trans rfl; have hfz18_0 := blk_frozen BK191.out 0; have hfz18_1 := blk_frozen BK191.out 1) | ((with_reducible refine gate_callee (f := 66) rfl ?_); refine goesL_ (some 16) rfl rfl Tryd.func66 (by kernel_rfl) rfl #[.agg #[.int .u64 t186, .int .u64 t187], .int .u64 1000] rfl aA ?_; (with_reducible refine (wide_Times.calls t186 t187 1000 t192 t193 t194 _ A3.out).mono ?_); rintro e w19 ⟨rfl, hb⟩; refine ⟨_, rfl, ?_⟩; have n0_ := Aside0.mk (blk_below (g := gb185) (o := .cells #[.int .i64 a0_0, .int .i64 a0_1, .int .i64 a0_2, .int .i64 a0_3, .int .i64 a0_4, .int .i64 a0_5, .int .i64 a0_6, .int .i64 a0_7] 69 (0, 0)) (by (with_reducible repeat (first | refine blk_drewN ?_ _ | refine blk_drew ?_ | refine blk_alloc ?_ _)); refine blk_far ?_ NB185_191.out _; (with_reducible repeat (first | refine blk_drewN ?_ _ | refine blk_drew ?_ | refine blk_alloc ?_ _)); refine blk_far ?_ NB185_191.out _; (with_reducible repeat (first | refine blk_drewN ?_ _ | refine blk_drew ?_ | refine blk_alloc ?_ _)); refine blk_far ?_ NB185_190.out _; (with_reducible repeat (first | refine blk_drewN ?_ _ | refine blk_drew ?_ | refine blk_alloc ?_ _)); refine blk_far ?_ NB185_190.out _; exact kA) hb); have n1_ := Aside0.mk (blk_below (g := gb190) (o := .cells #[.int .u64 t186, .int .u64 t187] 76 (0, 0)) (by (with_reducible repeat (first | refine blk_drewN ?_ _ | refine blk_drew ?_ | refine blk_alloc ?_ _)); refine blk_far ?_ NB190_191.out _; (with_reducible repeat (first | refine blk_drewN ?_ _ | refine blk_drew ?_ | refine blk_alloc ?_ _)); refine blk_far ?_ NB190_191.out _; (with_reducible repeat (first | refine blk_drewN ?_ _ | refine blk_drew ?_ | refine blk_alloc ?_ _)); refine blk_put (cs := #[.int .u64 t186, .int .u64 0]) ?_ 1 _ rfl; (with_reducible repeat (first | refine blk_drewN ?_ _ | refine blk_drew ?_ | refine blk_alloc ?_ _)); refine blk_put (cs := #[.int .u64 0, .int .u64 0]) ?_ 0 _ rfl; exact kA) hb); have n2_ := Aside0.mk (blk_below (g := gb191) (o := .cells #[.int .u64 t188, .int .u64 t189] 76 (0, 0)) (by (with_reducible repeat (first | refine blk_drewN ?_ _ | refine blk_drew ?_ | refine blk_alloc ?_ _)); refine blk_put (cs := #[.int .u64 t188, .int .u64 0]) ?_ 1 _ rfl; (with_reducible repeat (first | refine blk_drewN ?_ _ | refine blk_drew ?_ | refine blk_alloc ?_ _)); refine blk_put (cs := #[.int .u64 0, .int .u64 0]) ?_ 0 _ rfl; (with_reducible repeat (first | refine blk_drewN ?_ _ | refine blk_drew ?_ | refine blk_alloc ?_ _)); refine blk_far ?_ NB191_190.out _; (with_reducible repeat (first | refine blk_drewN ?_ _ | refine blk_drew ?_ | refine blk_alloc ?_ _)); refine blk_far ?_ NB191_190.out _; exact kA) hb); have n3_ := Aside0.mk (below_step bA hb); clear BK185 BK190 BK191 HB; have BK185 := n0_; have BK190 := n1_; have BK191 := n2_; have HB := n3_; clear n0_ n1_ n2_ n3_; (try clear hb)) | ((with_reducible refine gate_dst (N := 5) rfl ?_); refine bxA 5 #[.int .u64 0, .int .u64 0] 76 ?_; intro gb195 hg w20 hbox hb; have n0_ := Aside0.mk (blk_below (g := gb185) kA hb); have n1_ := Aside0.mk (blk_below (g := gb190) kA hb); have n2_ := Aside0.mk (blk_below (g := gb191) kA hb); have n3_ := Aside0.mk (below_step bA hb); have n4_ := Aside0.mk (hbox); have n5_ := Aside0.mk (gwA hg bA); have n6_ := Aside0.mk (gwA hg bA); have n7_ := Aside0.mk (neA (g := gb185) hg kA); have n8_ := Aside0.mk (neB (g := gb185) hg kA); have n9_ := Aside0.mk (neA (g := gb190) hg kA); have n10_ := Aside0.mk (neB (g := gb190) hg kA); have n11_ := Aside0.mk (neA (g := gb191) hg kA); have n12_ := Aside0.mk (neB (g := gb191) hg kA); clear BK185 BK190 BK191 HB; have BK185 := n0_; have BK190 := n1_; have BK191 := n2_; have HB := n3_; have BK195 := n4_; have GW195 := n5_; have GE195 := n6_; have NB185_195 := n7_; have NB195_185 := n8_; have NB190_195 := n9_; have NB195_190 := n10_; have NB191_195 := n11_; have NB195_191 := n12_; clear n0_ n1_ n2_ n3_ n4_ n5_ n6_ n7_ n8_ n9_ n10_ n11_ n12_ hb hbox hg; have hnb21 := NB195_185.out; have hnc21 := NB185_195.out; have hnb22 := NB195_190.out; have hnc22 := NB190_195.out; have hnb23 := NB195_191.out; have hnc23 := NB191_195.out; have hcz24_0 : w20.cell? ⟨gb195, 0, none⟩ = some (.int .u64 0) := (blk_cell BK195.out 0).trans rfl; have hcz24_1 : w20.cell? ⟨gb195, 1, none⟩ = some (.int .u64 0) := (blk_cell BK195.out 1).trans rfl; have hfz24_0 := blk_frozen BK195.out 0; have hfz24_1 := blk_frozen BK195.out 1))
  have n0_ : Aside0 (((w20.setCell ⟨gb195, 0, none⟩ (.int .u64 t192)).setCell ⟨gb195, 1, none⟩ (.int .u64 t193)).heap[gb185]? = some (.cells #[.int .i64 a0_0, .int .i64 a0_1, .int .i64 a0_2, .int .i64 a0_3, .int .i64 a0_4, .int .i64 a0_5, .int .i64 a0_6, .int .i64 a0_7] 69 (0, 0))) := ⟨by (with_reducible repeat (first | refine blk_drewN ?_ _ | refine blk_drew ?_ | refine blk_alloc ?_ _)); refine blk_far ?_ NB185_195.out _; (with_reducible repeat (first | refine blk_drewN ?_ _ | refine blk_drew ?_ | refine blk_alloc ?_ _)); refine blk_far ?_ NB185_195.out _; exact kA⟩
  have n1_ : Aside0 (((w20.setCell ⟨gb195, 0, none⟩ (.int .u64 t192)).setCell ⟨gb195, 1, none⟩ (.int .u64 t193)).heap[gb190]? = some (.cells #[.int .u64 t186, .int .u64 t187] 76 (0, 0))) := ⟨by (with_reducible repeat (first | refine blk_drewN ?_ _ | refine blk_drew ?_ | refine blk_alloc ?_ _)); refine blk_far ?_ NB190_195.out _; (with_reducible repeat (first | refine blk_drewN ?_ _ | refine blk_drew ?_ | refine blk_alloc ?_ _)); refine blk_far ?_ NB190_195.out _; exact kA⟩
  have n2_ : Aside0 (((w20.setCell ⟨gb195, 0, none⟩ (.int .u64 t192)).setCell ⟨gb195, 1, none⟩ (.int .u64 t193)).heap[gb191]? = some (.cells #[.int .u64 t188, .int .u64 t189] 76 (0, 0))) := ⟨by (with_reducible repeat (first | refine blk_drewN ?_ _ | refine blk_drew ?_ | refine blk_alloc ?_ _)); refine blk_far ?_ NB191_195.out _; (with_reducible repeat (first | refine blk_drewN ?_ _ | refine blk_drew ?_ | refine blk_alloc ?_ _)); refine blk_far ?_ NB191_195.out _; exact kA⟩
  have n3_ : Aside0 (((w20.setCell ⟨gb195, 0, none⟩ (.int .u64 t192)).setCell ⟨gb195, 1, none⟩ (.int .u64 t193)).heap[gb195]? = some (.cells #[.int .u64 t192, .int .u64 t193] 76 (0, 0))) := ⟨by (with_reducible repeat (first | refine blk_drewN ?_ _ | refine blk_drew ?_ | refine blk_alloc ?_ _)); refine blk_put (cs := #[.int .u64 t192, .int .u64 0]) ?_ 1 _ rfl; (with_reducible repeat (first | refine blk_drewN ?_ _ | refine blk_drew ?_ | refine blk_alloc ?_ _)); refine blk_put (cs := #[.int .u64 0, .int .u64 0]) ?_ 0 _ rfl; exact kA⟩
  have n4_ : Aside0 (Below w.heap.size w ((w20.setCell ⟨gb195, 0, none⟩ (.int .u64 t192)).setCell ⟨gb195, 1, none⟩ (.int .u64 t193))) := ⟨bA⟩
  (try clear BK185); (try clear BK190); (try clear BK191); (try clear BK195); (try clear HB)
  generalize ((w20.setCell ⟨gb195, 0, none⟩ (.int .u64 t192)).setCell ⟨gb195, 1, none⟩ (.int .u64 t193)) = w25 at n0_ n1_ n2_ n3_ n4_ ⊢
  have BK185 := n0_; have BK190 := n1_; have BK191 := n2_; have BK195 := n3_; have HB := n4_; clear n0_ n1_ n2_ n3_ n4_; have n0_ := Aside0.mk (blk_drew BK185.out); have n1_ := Aside0.mk (blk_drew BK190.out); have n2_ := Aside0.mk (blk_drew BK191.out); have n3_ := Aside0.mk (blk_drew BK195.out); have n4_ := Aside0.mk (below_drew1 HB.out); clear BK185 BK190 BK191 BK195 HB; have BK185 := n0_; have BK190 := n1_; have BK191 := n2_; have BK195 := n3_; have HB := n4_; clear n0_ n1_ n2_ n3_ n4_
  refine start_ (n := 18) (S := fun w' => w'.cell? ⟨gb191, 0, none⟩ = some (.int .u64 t188) ∧ w'.cell? ⟨gb191, 1, none⟩ = some (.int .u64 t189) ∧ w'.cell? ⟨gb185, 0, none⟩ = some (.int .i64 a0_0) ∧ w'.cell? ⟨gb185, 1, none⟩ = some (.int .i64 a0_1) ∧ w'.cell? ⟨gb185, 2, none⟩ = some (.int .i64 a0_2) ∧ w'.cell? ⟨gb185, 3, none⟩ = some (.int .i64 a0_3) ∧ w'.cell? ⟨gb185, 4, none⟩ = some (.int .i64 a0_4) ∧ w'.cell? ⟨gb185, 5, none⟩ = some (.int .i64 a0_5) ∧ w'.cell? ⟨gb185, 6, none⟩ = some (.int .i64 a0_6) ∧ w'.cell? ⟨gb185, 7, none⟩ = some (.int .i64 a0_7)) (ds := []) #[false, false, false, false, false, false, false, false, false, false, false, false, false, false, false, false, false, false] (by kernel_rfl) rfl rfl ⟨(blk_cell BK191.out 0).trans rfl, (blk_cell BK191.out 1).trans rfl, (blk_cell BK185.out 0).trans rfl, (blk_cell BK185.out 1).trans rfl, (blk_cell BK185.out 2).trans rfl, (blk_cell BK185.out 3).trans rfl, (blk_cell BK185.out 4).trans rfl, (blk_cell BK185.out 5).trans rfl, (blk_cell BK185.out 6).trans rfl, (blk_cell BK185.out 7).trans rfl⟩ (fun hHeld => ?_); refine with_tabW config_asked_off.tab3 config_asked_off.bits3 (fun HT_ HW_ => ?_)
  generalize w25.drew = w26 at BK185 BK190 BK191 BK195 HB hHeld ⊢
  refine pure_ (i := 1) (N := some 21) (v := ?_) (a' := ?_) #[false, true, false, false, false, false, false, false, false, false, false, false, false, false, false, false, false, false] rfl rfl (any_of HT_.out (by kernel_rfl)) (fun _ _ _ h => h) (Or.inl ⟨by rfl, ?_⟩) ?_ ?_
  rotate_left
  ·intro w'
   go_simp; with_reducible rfl
  rotate_left
  ·simp only [Act.put, List.setIfInBounds_toArray, List.set_cons_zero, List.set_cons_succ, i64_w, i32_w]
   rfl
  refine pure_ (i := 2) (N := some 22) (v := ?_) (a' := ?_) #[false, true, true, false, false, false, false, false, false, false, false, false, false, false, false, false, false, false] rfl rfl (any_of HT_.out (by kernel_rfl)) (fun _ _ _ h => h) (Or.inl ⟨by rfl, ?_⟩) ?_ ?_
  rotate_left
  ·intro w'
   go_simp; with_reducible rfl
  rotate_left
  ·simp only [Act.put, List.setIfInBounds_toArray, List.set_cons_zero, List.set_cons_succ, i64_w, i32_w]
   rfl
  refine take_ (i := 0) (N := some 20) (v := ?_) (a' := ?_) #[true, true, true, false, false, false, false, false, false, false, false, false, false, false, false, false, false, false] rfl rfl (take_ofW HT_.out HW_.out (by kernel_rfl)) (fun _ _ _ h => h) (Or.inl ⟨by rfl, ?_⟩) hHeld ?_ ?_
  rotate_left
  ·rintro w' ⟨s0, s1, s2, s3, s4, s5, s6, s7, s8, s9⟩
   go_simp; with_reducible rfl
  rotate_left
  ·simp only [Act.put, List.setIfInBounds_toArray, List.set_cons_zero, List.set_cons_succ, i64_w, i32_w]
   rfl
  refine take_ (i := 3) (N := some 23) (v := ?_) (a' := ?_) #[true, true, true, true, false, false, false, false, false, false, false, false, false, false, false, false, false, false] rfl rfl (take_ofW HT_.out HW_.out (by kernel_rfl)) (fun _ _ _ h => h) (Or.inl ⟨by rfl, ?_⟩) hHeld ?_ ?_
  rotate_left
  ·rintro w' ⟨s0, s1, s2, s3, s4, s5, s6, s7, s8, s9⟩
   go_simp; with_reducible rfl
  rotate_left
  ·simp only [Act.put, List.setIfInBounds_toArray, List.set_cons_zero, List.set_cons_succ, i64_w, i32_w]
   rfl
  refine take_ (i := 4) (N := some 24) (v := ?_) (a' := ?_) #[true, true, true, true, true, false, false, false, false, false, false, false, false, false, false, false, false, false] rfl rfl (take_ofW HT_.out HW_.out (by kernel_rfl)) (fun _ _ _ h => h) (Or.inl ⟨by rfl, ?_⟩) hHeld ?_ ?_
  rotate_left
  ·rintro w' ⟨s0, s1, s2, s3, s4, s5, s6, s7, s8, s9⟩
   go_simp; with_reducible rfl
  rotate_left
  ·simp only [Act.put, List.setIfInBounds_toArray, List.set_cons_zero, List.set_cons_succ, i64_w, i32_w]
   rfl
  refine take_ (i := 7) (N := some 27) (v := ?_) (a' := ?_) #[true, true, true, true, true, false, false, true, false, false, false, false, false, false, false, false, false, false] rfl rfl (take_ofW HT_.out HW_.out (by kernel_rfl)) (fun _ _ _ h => h) (Or.inl ⟨by rfl, ?_⟩) hHeld ?_ ?_
  rotate_left
  ·rintro w' ⟨s0, s1, s2, s3, s4, s5, s6, s7, s8, s9⟩
   go_simp; with_reducible rfl
  rotate_left
  ·simp only [Act.put, List.setIfInBounds_toArray, List.set_cons_zero, List.set_cons_succ, i64_w, i32_w]
   rfl
  refine join_ (σ := Nat) 2 #[true, true, true, true, true, true, true, true, true, true, true, true, true, true, true, true, false, false] (fun s_ => [(25, .int .i64 t196), (28, .int .i64 t197), (31, .tuple #[.agg #[.int .u64 t198, .int .u64 t199], .bool t200]), (7, .pointer (some ⟨s_, 0, none⟩)), (26, .int .i64 (wrap64 (a0_3 * t196))), (29, .int .i64 (wrap64 ((wrap64 (a0_3 * t196)) + t197))), (30, .int .u64 (IntKind.u64.wrap (wrap64 ((wrap64 (a0_3 * t196)) + t197)))), (19, .tuple #[.agg #[.int .u64 t198, .int .u64 t199], .bool t200]), (32, .agg #[.int .u64 t198, .int .u64 t199]), (33, .bool t200)]) (fun s_ w' => (w'.cell? ⟨gb191, 0, none⟩ = some (.int .u64 t188) ∧ w'.cell? ⟨gb191, 1, none⟩ = some (.int .u64 t189) ∧ w'.cell? ⟨gb185, 0, none⟩ = some (.int .i64 a0_0) ∧ w'.cell? ⟨gb185, 1, none⟩ = some (.int .i64 a0_1) ∧ w'.cell? ⟨gb185, 2, none⟩ = some (.int .i64 a0_2) ∧ w'.cell? ⟨gb185, 3, none⟩ = some (.int .i64 a0_3) ∧ w'.cell? ⟨gb185, 4, none⟩ = some (.int .i64 a0_4) ∧ w'.cell? ⟨gb185, 5, none⟩ = some (.int .i64 a0_5) ∧ w'.cell? ⟨gb185, 6, none⟩ = some (.int .i64 a0_6) ∧ w'.cell? ⟨gb185, 7, none⟩ = some (.int .i64 a0_7)) ∧ (w'.heap[gb185]? = some (.cells #[.int .i64 a0_0, .int .i64 a0_1, .int .i64 a0_2, .int .i64 a0_3, .int .i64 a0_4, .int .i64 a0_5, .int .i64 a0_6, .int .i64 a0_7] 69 (0, 0))) ∧ (w'.heap[gb190]? = some (.cells #[.int .u64 t186, .int .u64 t187] 76 (0, 0))) ∧ (w'.heap[gb191]? = some (.cells #[.int .u64 t188, .int .u64 t189] 76 (0, 0))) ∧ (w'.heap[gb195]? = some (.cells #[.int .u64 t192, .int .u64 t193] 76 (0, 0))) ∧ (w'.heap[s_]? = some (.cells #[.int .u64 0, .int .u64 0] 76 (0, 0))) ∧ (w.heap.size ≤ s_) ∧ (w.heap.size ≤ s_) ∧ (gb185 ≠ s_) ∧ (s_ ≠ gb185) ∧ (gb190 ≠ s_) ∧ (s_ ≠ gb190) ∧ (gb191 ≠ s_) ∧ (s_ ≠ gb191) ∧ (gb195 ≠ s_) ∧ (s_ ≠ gb195) ∧ (Below w.heap.size w w')) ?_ ?_
  rotate_left
  ·intro hCont
   refine two_ (i := 5) (j := 15) (Ni := some 25) (Nj := some 7) #[true, true, true, true, true, true, false, true, false, false, false, false, false, false, false, false, false, false] #[true, true, true, true, true, false, false, true, false, false, false, false, false, false, false, true, false, false] rfl rfl rfl rfl (two_of HT_.out (by kernel_rfl)) (by decide) (by decide) (fun K hK => ?_) (fun K hK => ?_)
   ·skip
    refine goes_ Tryd.func67 (by kernel_rfl) rfl #[.agg #[.int .i64 a0_0, .int .i64 a0_1, .int .i64 a0_2, .int .i64 a0_3, .int .i64 a0_4, .int .i64 a0_5, .int .i64 a0_6, .int .i64 a0_7]] (by rfl) rfl rfl aA ?_
    with_reducible refine (config_asked_bound.calls a0_0 a0_1 a0_2 a0_3 a0_4 a0_5 a0_6 a0_7 t196 _ A4.out).mono ?_
    rintro e w27 ⟨rfl, hb⟩
    refine ⟨_, rfl, ?_⟩; have n0_ := Aside0.mk (blk_below (g := gb185) kA hb); have n1_ := Aside0.mk (blk_below (g := gb190) kA hb); have n2_ := Aside0.mk (blk_below (g := gb191) kA hb); have n3_ := Aside0.mk (blk_below (g := gb195) kA hb); have n4_ := Aside0.mk (below_step bA hb); clear BK185 BK190 BK191 BK195 HB; have BK185 := n0_; have BK190 := n1_; have BK191 := n2_; have BK195 := n3_; have HB := n4_; clear n0_ n1_ n2_ n3_ n4_; (try clear hb)
    refine hK.out _ _ ⟨(blk_cell BK191.out 0).trans rfl, (blk_cell BK191.out 1).trans rfl, (blk_cell BK185.out 0).trans rfl, (blk_cell BK185.out 1).trans rfl, (blk_cell BK185.out 2).trans rfl, (blk_cell BK185.out 3).trans rfl, (blk_cell BK185.out 4).trans rfl, (blk_cell BK185.out 5).trans rfl, (blk_cell BK185.out 6).trans rfl, (blk_cell BK185.out 7).trans rfl⟩ (fun hHeld => ?_)
    clear hK K
    refine norm_ (a' := ?_) ?_ ?_
    rotate_left
    ·show Act.put _ (some 25) _ = _
     simp only [Act.put, List.setIfInBounds_toArray, List.set_cons_zero, List.set_cons_succ, i64_w, i32_w]
     rfl
    refine pure_ (i := 6) (N := some 26) (v := ?_) (a' := ?_) #[true, true, true, true, true, true, true, true, false, false, false, false, false, false, false, false, false, false] rfl rfl (any_of HT_.out (by kernel_rfl)) (fun _ _ _ h => h) (Or.inl ⟨by rfl, ?_⟩) ?_ ?_
    rotate_left
    ·intro w'
     go_simp; with_reducible rfl
    rotate_left
    ·simp only [Act.put, List.setIfInBounds_toArray, List.set_cons_zero, List.set_cons_succ, i64_w, i32_w]
     rfl
    refine two_ (i := 8) (j := 15) (Ni := some 28) (Nj := some 7) #[true, true, true, true, true, true, true, true, true, false, false, false, false, false, false, false, false, false] #[true, true, true, true, true, true, true, true, false, false, false, false, false, false, false, true, false, false] rfl rfl rfl rfl (two_of HT_.out (by kernel_rfl)) (by decide) (by decide) (fun K hK => ?_) (fun K hK => ?_)
    ·skip
     refine goes_ Tryd.func64 (by kernel_rfl) rfl #[.agg #[.int .i64 a0_0, .int .i64 a0_1, .int .i64 a0_2, .int .i64 a0_3, .int .i64 a0_4, .int .i64 a0_5, .int .i64 a0_6, .int .i64 a0_7]] (by rfl) rfl rfl aA ?_
     with_reducible refine (config_asked_fairSize.calls a0_0 a0_1 a0_2 a0_3 a0_4 a0_5 a0_6 a0_7 t197 _ A5.out).mono ?_
     rintro e w28 ⟨rfl, hb⟩
     refine ⟨_, rfl, ?_⟩; have n0_ := Aside0.mk (blk_below (g := gb185) kA hb); have n1_ := Aside0.mk (blk_below (g := gb190) kA hb); have n2_ := Aside0.mk (blk_below (g := gb191) kA hb); have n3_ := Aside0.mk (blk_below (g := gb195) kA hb); have n4_ := Aside0.mk (below_step bA hb); clear BK185 BK190 BK191 BK195 HB; have BK185 := n0_; have BK190 := n1_; have BK191 := n2_; have BK195 := n3_; have HB := n4_; clear n0_ n1_ n2_ n3_ n4_; (try clear hb)
     refine hK.out _ _ ⟨(blk_cell BK191.out 0).trans rfl, (blk_cell BK191.out 1).trans rfl, (blk_cell BK185.out 0).trans rfl, (blk_cell BK185.out 1).trans rfl, (blk_cell BK185.out 2).trans rfl, (blk_cell BK185.out 3).trans rfl, (blk_cell BK185.out 4).trans rfl, (blk_cell BK185.out 5).trans rfl, (blk_cell BK185.out 6).trans rfl, (blk_cell BK185.out 7).trans rfl⟩ (fun hHeld => ?_)
     clear hK K
     refine norm_ (a' := ?_) ?_ ?_
     rotate_left
     ·show Act.put _ (some 28) _ = _
      simp only [Act.put, List.setIfInBounds_toArray, List.set_cons_zero, List.set_cons_succ, i64_w, i32_w]
      rfl
     refine pure_ (i := 9) (N := some 29) (v := ?_) (a' := ?_) #[true, true, true, true, true, true, true, true, true, true, false, false, false, false, false, false, false, false] rfl rfl (any_of HT_.out (by kernel_rfl)) (fun _ _ _ h => h) (Or.inl ⟨by rfl, ?_⟩) ?_ ?_
     rotate_left
     ·intro w'
      go_simp; with_reducible rfl
     rotate_left
     ·simp only [Act.put, List.setIfInBounds_toArray, List.set_cons_zero, List.set_cons_succ, i64_w, i32_w]
      rfl
     refine pure_ (i := 10) (N := some 30) (v := ?_) (a' := ?_) #[true, true, true, true, true, true, true, true, true, true, true, false, false, false, false, false, false, false] rfl rfl (any_of HT_.out (by kernel_rfl)) (fun _ _ _ h => h) (Or.inl ⟨by rfl, ?_⟩) ?_ ?_
     rotate_left
     ·intro w'
      go_simp; with_reducible rfl
     rotate_left
     ·simp only [Act.put, List.setIfInBounds_toArray, List.set_cons_zero, List.set_cons_succ, i64_w, i32_w]
      rfl
     refine two_ (i := 11) (j := 15) (Ni := some 31) (Nj := some 7) #[true, true, true, true, true, true, true, true, true, true, true, true, false, false, false, false, false, false] #[true, true, true, true, true, true, true, true, true, true, true, false, false, false, false, true, false, false] rfl rfl rfl rfl (two_of HT_.out (by kernel_rfl)) (by decide) (by decide) (fun K hK => ?_) (fun K hK => ?_)
     ·skip
      refine goes_ Tryd.func66 (by kernel_rfl) rfl #[.agg #[.int .u64 t188, .int .u64 t189], .int .u64 (IntKind.u64.wrap (wrap64 ((wrap64 (a0_3 * t196)) + t197)))] (by rfl) rfl rfl aA ?_
      with_reducible refine (wide_Times.calls t188 t189 (IntKind.u64.wrap (wrap64 ((wrap64 (a0_3 * t196)) + t197))) t198 t199 t200 _ A6.out).mono ?_
      rintro e w29 ⟨rfl, hb⟩
      refine ⟨_, rfl, ?_⟩; have n0_ := Aside0.mk (blk_below (g := gb185) kA hb); have n1_ := Aside0.mk (blk_below (g := gb190) kA hb); have n2_ := Aside0.mk (blk_below (g := gb191) kA hb); have n3_ := Aside0.mk (blk_below (g := gb195) kA hb); have n4_ := Aside0.mk (below_step bA hb); clear BK185 BK190 BK191 BK195 HB; have BK185 := n0_; have BK190 := n1_; have BK191 := n2_; have BK195 := n3_; have HB := n4_; clear n0_ n1_ n2_ n3_ n4_; (try clear hb)
      refine hK.out _ _ ⟨(blk_cell BK191.out 0).trans rfl, (blk_cell BK191.out 1).trans rfl, (blk_cell BK185.out 0).trans rfl, (blk_cell BK185.out 1).trans rfl, (blk_cell BK185.out 2).trans rfl, (blk_cell BK185.out 3).trans rfl, (blk_cell BK185.out 4).trans rfl, (blk_cell BK185.out 5).trans rfl, (blk_cell BK185.out 6).trans rfl, (blk_cell BK185.out 7).trans rfl⟩ (fun hHeld => ?_)
      clear hK K
      refine norm_ (a' := ?_) ?_ ?_
      rotate_left
      ·show Act.put _ (some 31) _ = _
       simp only [Act.put, List.setIfInBounds_toArray, List.set_cons_zero, List.set_cons_succ, i64_w, i32_w]
       rfl
      refine pure_ (i := 12) (N := some 19) (v := ?_) (a' := ?_) #[true, true, true, true, true, true, true, true, true, true, true, true, true, false, false, false, false, false] rfl rfl (any_of HT_.out (by kernel_rfl)) (fun _ _ _ h => h) (Or.inl ⟨by rfl, ?_⟩) ?_ ?_
      rotate_left
      ·intro w'
       go_simp; with_reducible rfl
      rotate_left
      ·simp only [Act.put, List.setIfInBounds_toArray, List.set_cons_zero, List.set_cons_succ, i64_w, i32_w]
       rfl
      refine pure_ (i := 13) (N := some 32) (v := ?_) (a' := ?_) #[true, true, true, true, true, true, true, true, true, true, true, true, true, true, false, false, false, false] rfl rfl (any_of HT_.out (by kernel_rfl)) (fun _ _ _ h => h) (Or.inl ⟨by rfl, ?_⟩) ?_ ?_
      rotate_left
      ·intro w'
       go_simp; with_reducible rfl
      rotate_left
      ·simp only [Act.put, List.setIfInBounds_toArray, List.set_cons_zero, List.set_cons_succ, i64_w, i32_w]
       rfl
      refine pure_ (i := 14) (N := some 33) (v := ?_) (a' := ?_) #[true, true, true, true, true, true, true, true, true, true, true, true, true, true, true, false, false, false] rfl rfl (any_of HT_.out (by kernel_rfl)) (fun _ _ _ h => h) (Or.inl ⟨by rfl, ?_⟩) ?_ ?_
      rotate_left
      ·intro w'
       go_simp; with_reducible rfl
      rotate_left
      ·simp only [Act.put, List.setIfInBounds_toArray, List.set_cons_zero, List.set_cons_succ, i64_w, i32_w]
       rfl
      refine one_ (i := 15) (N := some 7) #[true, true, true, true, true, true, true, true, true, true, true, true, true, true, true, true, false, false] rfl rfl (one_of HT_.out (by kernel_rfl)) (by decide) (fun K hK => ?_)
      refine box_step ?hg (N := 7) ?hd (cs := #[.int .u64 0, .int .u64 0]) (t := 76) ?hr ?_; (case hd => rfl); (case hg => rfl); (case hr => first | (go_simp; done) | (go_simp; rfl))
      intro gb201 hg w30 hbox hb
      have n0_ := Aside0.mk (blk_below (g := gb185) kA hb); have n1_ := Aside0.mk (blk_below (g := gb190) kA hb); have n2_ := Aside0.mk (blk_below (g := gb191) kA hb); have n3_ := Aside0.mk (blk_below (g := gb195) kA hb); have n4_ := Aside0.mk (below_step bA hb); have n5_ := Aside0.mk (hbox); have n6_ := Aside0.mk (gwA hg bA); have n7_ := Aside0.mk (gwA hg bA); have n8_ := Aside0.mk (neA (g := gb185) hg kA); have n9_ := Aside0.mk (neB (g := gb185) hg kA); have n10_ := Aside0.mk (neA (g := gb190) hg kA); have n11_ := Aside0.mk (neB (g := gb190) hg kA); have n12_ := Aside0.mk (neA (g := gb191) hg kA); have n13_ := Aside0.mk (neB (g := gb191) hg kA); have n14_ := Aside0.mk (neA (g := gb195) hg kA); have n15_ := Aside0.mk (neB (g := gb195) hg kA); clear BK185 BK190 BK191 BK195 HB; have BK185 := n0_; have BK190 := n1_; have BK191 := n2_; have BK195 := n3_; have HB := n4_; have BK201 := n5_; have GW201 := n6_; have GE201 := n7_; have NB185_201 := n8_; have NB201_185 := n9_; have NB190_201 := n10_; have NB201_190 := n11_; have NB191_201 := n12_; have NB201_191 := n13_; have NB195_201 := n14_; have NB201_195 := n15_; clear n0_ n1_ n2_ n3_ n4_ n5_ n6_ n7_ n8_ n9_ n10_ n11_ n12_ n13_ n14_ n15_ hb hbox hg
      refine hK.out _ _ ⟨(blk_cell BK191.out 0).trans rfl, (blk_cell BK191.out 1).trans rfl, (blk_cell BK185.out 0).trans rfl, (blk_cell BK185.out 1).trans rfl, (blk_cell BK185.out 2).trans rfl, (blk_cell BK185.out 3).trans rfl, (blk_cell BK185.out 4).trans rfl, (blk_cell BK185.out 5).trans rfl, (blk_cell BK185.out 6).trans rfl, (blk_cell BK185.out 7).trans rfl⟩ (fun hHeld => ?_)
      clear hK K
      refine norm_ (a' := ?_) ?_ ?_
      rotate_left
      ·show Act.put _ (some 7) _ = _
       simp only [Act.put, List.setIfInBounds_toArray, List.set_cons_zero, List.set_cons_succ, i64_w, i32_w]
       rfl
      exact norm_ (by simp only [putAll, Act.put, List.setIfInBounds_toArray, List.set_cons_zero, List.set_cons_succ]) (hCont (gb201) _ ⟨hHeld, kA, kA, kA, kA, kA, GW201.out, GE201.out, NB185_201.out, NB201_185.out, NB190_201.out, NB201_190.out, NB191_201.out, NB201_191.out, NB195_201.out, NB201_195.out, bA⟩)
     ·skip
      refine box_step ?hg (N := 7) ?hd (cs := #[.int .u64 0, .int .u64 0]) (t := 76) ?hr ?_; (case hd => rfl); (case hg => rfl); (case hr => first | (go_simp; done) | (go_simp; rfl))
      intro gb201 hg w29 hbox hb
      have n0_ := Aside0.mk (blk_below (g := gb185) kA hb); have n1_ := Aside0.mk (blk_below (g := gb190) kA hb); have n2_ := Aside0.mk (blk_below (g := gb191) kA hb); have n3_ := Aside0.mk (blk_below (g := gb195) kA hb); have n4_ := Aside0.mk (below_step bA hb); have n5_ := Aside0.mk (hbox); have n6_ := Aside0.mk (gwA hg bA); have n7_ := Aside0.mk (gwA hg bA); have n8_ := Aside0.mk (neA (g := gb185) hg kA); have n9_ := Aside0.mk (neB (g := gb185) hg kA); have n10_ := Aside0.mk (neA (g := gb190) hg kA); have n11_ := Aside0.mk (neB (g := gb190) hg kA); have n12_ := Aside0.mk (neA (g := gb191) hg kA); have n13_ := Aside0.mk (neB (g := gb191) hg kA); have n14_ := Aside0.mk (neA (g := gb195) hg kA); have n15_ := Aside0.mk (neB (g := gb195) hg kA); clear BK185 BK190 BK191 BK195 HB; have BK185 := n0_; have BK190 := n1_; have BK191 := n2_; have BK195 := n3_; have HB := n4_; have BK201 := n5_; have GW201 := n6_; have GE201 := n7_; have NB185_201 := n8_; have NB201_185 := n9_; have NB190_201 := n10_; have NB201_190 := n11_; have NB191_201 := n12_; have NB201_191 := n13_; have NB195_201 := n14_; have NB201_195 := n15_; clear n0_ n1_ n2_ n3_ n4_ n5_ n6_ n7_ n8_ n9_ n10_ n11_ n12_ n13_ n14_ n15_ hb hbox hg
      refine hK.out _ _ ⟨(blk_cell BK191.out 0).trans rfl, (blk_cell BK191.out 1).trans rfl, (blk_cell BK185.out 0).trans rfl, (blk_cell BK185.out 1).trans rfl, (blk_cell BK185.out 2).trans rfl, (blk_cell BK185.out 3).trans rfl, (blk_cell BK185.out 4).trans rfl, (blk_cell BK185.out 5).trans rfl, (blk_cell BK185.out 6).trans rfl, (blk_cell BK185.out 7).trans rfl⟩ (fun hHeld => ?_)
      clear hK K
      refine norm_ (a' := ?_) ?_ ?_
      rotate_left
      ·show Act.put _ (some 7) _ = _
       simp only [Act.put, List.setIfInBounds_toArray, List.set_cons_zero, List.set_cons_succ, i64_w, i32_w]
       rfl
      refine one_ (i := 11) (N := some 31) #[true, true, true, true, true, true, true, true, true, true, true, true, false, false, false, true, false, false] rfl rfl (one_of HT_.out (by kernel_rfl)) (by decide) (fun K hK => ?_)
      refine goes_ Tryd.func66 (by kernel_rfl) rfl #[.agg #[.int .u64 t188, .int .u64 t189], .int .u64 (IntKind.u64.wrap (wrap64 ((wrap64 (a0_3 * t196)) + t197)))] (by rfl) rfl rfl aA ?_
      with_reducible refine (wide_Times.calls t188 t189 (IntKind.u64.wrap (wrap64 ((wrap64 (a0_3 * t196)) + t197))) t198 t199 t200 _ A6.out).mono ?_
      rintro e w30 ⟨rfl, hb⟩
      refine ⟨_, rfl, ?_⟩; have n0_ := Aside0.mk (blk_below (g := gb185) kA hb); have n1_ := Aside0.mk (blk_below (g := gb190) kA hb); have n2_ := Aside0.mk (blk_below (g := gb191) kA hb); have n3_ := Aside0.mk (blk_below (g := gb195) kA hb); have n4_ := Aside0.mk (blk_below (g := gb201) kA hb); have n5_ := Aside0.mk (below_step bA hb); clear BK185 BK190 BK191 BK195 BK201 HB; have BK185 := n0_; have BK190 := n1_; have BK191 := n2_; have BK195 := n3_; have BK201 := n4_; have HB := n5_; clear n0_ n1_ n2_ n3_ n4_ n5_; (try clear hb)
      refine hK.out _ _ ⟨(blk_cell BK191.out 0).trans rfl, (blk_cell BK191.out 1).trans rfl, (blk_cell BK185.out 0).trans rfl, (blk_cell BK185.out 1).trans rfl, (blk_cell BK185.out 2).trans rfl, (blk_cell BK185.out 3).trans rfl, (blk_cell BK185.out 4).trans rfl, (blk_cell BK185.out 5).trans rfl, (blk_cell BK185.out 6).trans rfl, (blk_cell BK185.out 7).trans rfl⟩ (fun hHeld => ?_)
      clear hK K
      refine norm_ (a' := ?_) ?_ ?_
      rotate_left
      ·show Act.put _ (some 31) _ = _
       simp only [Act.put, List.setIfInBounds_toArray, List.set_cons_zero, List.set_cons_succ, i64_w, i32_w]
       rfl
      refine pure_ (i := 12) (N := some 19) (v := ?_) (a' := ?_) #[true, true, true, true, true, true, true, true, true, true, true, true, true, false, false, true, false, false] rfl rfl (any_of HT_.out (by kernel_rfl)) (fun _ _ _ h => h) (Or.inl ⟨by rfl, ?_⟩) ?_ ?_
      rotate_left
      ·intro w'
       go_simp; with_reducible rfl
      rotate_left
      ·simp only [Act.put, List.setIfInBounds_toArray, List.set_cons_zero, List.set_cons_succ, i64_w, i32_w]
       rfl
      refine pure_ (i := 13) (N := some 32) (v := ?_) (a' := ?_) #[true, true, true, true, true, true, true, true, true, true, true, true, true, true, false, true, false, false] rfl rfl (any_of HT_.out (by kernel_rfl)) (fun _ _ _ h => h) (Or.inl ⟨by rfl, ?_⟩) ?_ ?_
      rotate_left
      ·intro w'
       go_simp; with_reducible rfl
      rotate_left
      ·simp only [Act.put, List.setIfInBounds_toArray, List.set_cons_zero, List.set_cons_succ, i64_w, i32_w]
       rfl
      refine pure_ (i := 14) (N := some 33) (v := ?_) (a' := ?_) #[true, true, true, true, true, true, true, true, true, true, true, true, true, true, true, true, false, false] rfl rfl (any_of HT_.out (by kernel_rfl)) (fun _ _ _ h => h) (Or.inl ⟨by rfl, ?_⟩) ?_ ?_
      rotate_left
      ·intro w'
       go_simp; with_reducible rfl
      rotate_left
      ·simp only [Act.put, List.setIfInBounds_toArray, List.set_cons_zero, List.set_cons_succ, i64_w, i32_w]
       rfl
      exact norm_ (by simp only [putAll, Act.put, List.setIfInBounds_toArray, List.set_cons_zero, List.set_cons_succ]) (hCont (gb201) _ ⟨hHeld, kA, kA, kA, kA, kA, GW201.out, GE201.out, NB185_201.out, NB201_185.out, NB190_201.out, NB201_190.out, NB191_201.out, NB201_191.out, NB195_201.out, NB201_195.out, bA⟩)
    ·skip
     refine box_step ?hg (N := 7) ?hd (cs := #[.int .u64 0, .int .u64 0]) (t := 76) ?hr ?_; (case hd => rfl); (case hg => rfl); (case hr => first | (go_simp; done) | (go_simp; rfl))
     intro gb201 hg w28 hbox hb
     have n0_ := Aside0.mk (blk_below (g := gb185) kA hb); have n1_ := Aside0.mk (blk_below (g := gb190) kA hb); have n2_ := Aside0.mk (blk_below (g := gb191) kA hb); have n3_ := Aside0.mk (blk_below (g := gb195) kA hb); have n4_ := Aside0.mk (below_step bA hb); have n5_ := Aside0.mk (hbox); have n6_ := Aside0.mk (gwA hg bA); have n7_ := Aside0.mk (gwA hg bA); have n8_ := Aside0.mk (neA (g := gb185) hg kA); have n9_ := Aside0.mk (neB (g := gb185) hg kA); have n10_ := Aside0.mk (neA (g := gb190) hg kA); have n11_ := Aside0.mk (neB (g := gb190) hg kA); have n12_ := Aside0.mk (neA (g := gb191) hg kA); have n13_ := Aside0.mk (neB (g := gb191) hg kA); have n14_ := Aside0.mk (neA (g := gb195) hg kA); have n15_ := Aside0.mk (neB (g := gb195) hg kA); clear BK185 BK190 BK191 BK195 HB; have BK185 := n0_; have BK190 := n1_; have BK191 := n2_; have BK195 := n3_; have HB := n4_; have BK201 := n5_; have GW201 := n6_; have GE201 := n7_; have NB185_201 := n8_; have NB201_185 := n9_; have NB190_201 := n10_; have NB201_190 := n11_; have NB191_201 := n12_; have NB201_191 := n13_; have NB195_201 := n14_; have NB201_195 := n15_; clear n0_ n1_ n2_ n3_ n4_ n5_ n6_ n7_ n8_ n9_ n10_ n11_ n12_ n13_ n14_ n15_ hb hbox hg
     refine hK.out _ _ ⟨(blk_cell BK191.out 0).trans rfl, (blk_cell BK191.out 1).trans rfl, (blk_cell BK185.out 0).trans rfl, (blk_cell BK185.out 1).trans rfl, (blk_cell BK185.out 2).trans rfl, (blk_cell BK185.out 3).trans rfl, (blk_cell BK185.out 4).trans rfl, (blk_cell BK185.out 5).trans rfl, (blk_cell BK185.out 6).trans rfl, (blk_cell BK185.out 7).trans rfl⟩ (fun hHeld => ?_)
     clear hK K
     refine norm_ (a' := ?_) ?_ ?_
     rotate_left
     ·show Act.put _ (some 7) _ = _
      simp only [Act.put, List.setIfInBounds_toArray, List.set_cons_zero, List.set_cons_succ, i64_w, i32_w]
      rfl
     refine one_ (i := 8) (N := some 28) #[true, true, true, true, true, true, true, true, true, false, false, false, false, false, false, true, false, false] rfl rfl (one_of HT_.out (by kernel_rfl)) (by decide) (fun K hK => ?_)
     refine goes_ Tryd.func64 (by kernel_rfl) rfl #[.agg #[.int .i64 a0_0, .int .i64 a0_1, .int .i64 a0_2, .int .i64 a0_3, .int .i64 a0_4, .int .i64 a0_5, .int .i64 a0_6, .int .i64 a0_7]] (by rfl) rfl rfl aA ?_
     with_reducible refine (config_asked_fairSize.calls a0_0 a0_1 a0_2 a0_3 a0_4 a0_5 a0_6 a0_7 t197 _ A5.out).mono ?_
     rintro e w29 ⟨rfl, hb⟩
     refine ⟨_, rfl, ?_⟩; have n0_ := Aside0.mk (blk_below (g := gb185) kA hb); have n1_ := Aside0.mk (blk_below (g := gb190) kA hb); have n2_ := Aside0.mk (blk_below (g := gb191) kA hb); have n3_ := Aside0.mk (blk_below (g := gb195) kA hb); have n4_ := Aside0.mk (blk_below (g := gb201) kA hb); have n5_ := Aside0.mk (below_step bA hb); clear BK185 BK190 BK191 BK195 BK201 HB; have BK185 := n0_; have BK190 := n1_; have BK191 := n2_; have BK195 := n3_; have BK201 := n4_; have HB := n5_; clear n0_ n1_ n2_ n3_ n4_ n5_; (try clear hb)
     refine hK.out _ _ ⟨(blk_cell BK191.out 0).trans rfl, (blk_cell BK191.out 1).trans rfl, (blk_cell BK185.out 0).trans rfl, (blk_cell BK185.out 1).trans rfl, (blk_cell BK185.out 2).trans rfl, (blk_cell BK185.out 3).trans rfl, (blk_cell BK185.out 4).trans rfl, (blk_cell BK185.out 5).trans rfl, (blk_cell BK185.out 6).trans rfl, (blk_cell BK185.out 7).trans rfl⟩ (fun hHeld => ?_)
     clear hK K
     refine norm_ (a' := ?_) ?_ ?_
     rotate_left
     ·show Act.put _ (some 28) _ = _
      simp only [Act.put, List.setIfInBounds_toArray, List.set_cons_zero, List.set_cons_succ, i64_w, i32_w]
      rfl
     refine pure_ (i := 9) (N := some 29) (v := ?_) (a' := ?_) #[true, true, true, true, true, true, true, true, true, true, false, false, false, false, false, true, false, false] rfl rfl (any_of HT_.out (by kernel_rfl)) (fun _ _ _ h => h) (Or.inl ⟨by rfl, ?_⟩) ?_ ?_
     rotate_left
     ·intro w'
      go_simp; with_reducible rfl
     rotate_left
     ·simp only [Act.put, List.setIfInBounds_toArray, List.set_cons_zero, List.set_cons_succ, i64_w, i32_w]
      rfl
     refine pure_ (i := 10) (N := some 30) (v := ?_) (a' := ?_) #[true, true, true, true, true, true, true, true, true, true, true, false, false, false, false, true, false, false] rfl rfl (any_of HT_.out (by kernel_rfl)) (fun _ _ _ h => h) (Or.inl ⟨by rfl, ?_⟩) ?_ ?_
     rotate_left
     ·intro w'
      go_simp; with_reducible rfl
     rotate_left
     ·simp only [Act.put, List.setIfInBounds_toArray, List.set_cons_zero, List.set_cons_succ, i64_w, i32_w]
      rfl
     refine one_ (i := 11) (N := some 31) #[true, true, true, true, true, true, true, true, true, true, true, true, false, false, false, true, false, false] rfl rfl (one_of HT_.out (by kernel_rfl)) (by decide) (fun K hK => ?_)
     refine goes_ Tryd.func66 (by kernel_rfl) rfl #[.agg #[.int .u64 t188, .int .u64 t189], .int .u64 (IntKind.u64.wrap (wrap64 ((wrap64 (a0_3 * t196)) + t197)))] (by rfl) rfl rfl aA ?_
     with_reducible refine (wide_Times.calls t188 t189 (IntKind.u64.wrap (wrap64 ((wrap64 (a0_3 * t196)) + t197))) t198 t199 t200 _ A6.out).mono ?_
     rintro e w30 ⟨rfl, hb⟩
     refine ⟨_, rfl, ?_⟩; have n0_ := Aside0.mk (blk_below (g := gb185) kA hb); have n1_ := Aside0.mk (blk_below (g := gb190) kA hb); have n2_ := Aside0.mk (blk_below (g := gb191) kA hb); have n3_ := Aside0.mk (blk_below (g := gb195) kA hb); have n4_ := Aside0.mk (blk_below (g := gb201) kA hb); have n5_ := Aside0.mk (below_step bA hb); clear BK185 BK190 BK191 BK195 BK201 HB; have BK185 := n0_; have BK190 := n1_; have BK191 := n2_; have BK195 := n3_; have BK201 := n4_; have HB := n5_; clear n0_ n1_ n2_ n3_ n4_ n5_; (try clear hb)
     refine hK.out _ _ ⟨(blk_cell BK191.out 0).trans rfl, (blk_cell BK191.out 1).trans rfl, (blk_cell BK185.out 0).trans rfl, (blk_cell BK185.out 1).trans rfl, (blk_cell BK185.out 2).trans rfl, (blk_cell BK185.out 3).trans rfl, (blk_cell BK185.out 4).trans rfl, (blk_cell BK185.out 5).trans rfl, (blk_cell BK185.out 6).trans rfl, (blk_cell BK185.out 7).trans rfl⟩ (fun hHeld => ?_)
     clear hK K
     refine norm_ (a' := ?_) ?_ ?_
     rotate_left
     ·show Act.put _ (some 31) _ = _
      simp only [Act.put, List.setIfInBounds_toArray, List.set_cons_zero, List.set_cons_succ, i64_w, i32_w]
      rfl
     refine pure_ (i := 12) (N := some 19) (v := ?_) (a' := ?_) #[true, true, true, true, true, true, true, true, true, true, true, true, true, false, false, true, false, false] rfl rfl (any_of HT_.out (by kernel_rfl)) (fun _ _ _ h => h) (Or.inl ⟨by rfl, ?_⟩) ?_ ?_
     rotate_left
     ·intro w'
      go_simp; with_reducible rfl
     rotate_left
     ·simp only [Act.put, List.setIfInBounds_toArray, List.set_cons_zero, List.set_cons_succ, i64_w, i32_w]
      rfl
     refine pure_ (i := 13) (N := some 32) (v := ?_) (a' := ?_) #[true, true, true, true, true, true, true, true, true, true, true, true, true, true, false, true, false, false] rfl rfl (any_of HT_.out (by kernel_rfl)) (fun _ _ _ h => h) (Or.inl ⟨by rfl, ?_⟩) ?_ ?_
     rotate_left
     ·intro w'
      go_simp; with_reducible rfl
     rotate_left
     ·simp only [Act.put, List.setIfInBounds_toArray, List.set_cons_zero, List.set_cons_succ, i64_w, i32_w]
      rfl
     refine pure_ (i := 14) (N := some 33) (v := ?_) (a' := ?_) #[true, true, true, true, true, true, true, true, true, true, true, true, true, true, true, true, false, false] rfl rfl (any_of HT_.out (by kernel_rfl)) (fun _ _ _ h => h) (Or.inl ⟨by rfl, ?_⟩) ?_ ?_
     rotate_left
     ·intro w'
      go_simp; with_reducible rfl
     rotate_left
     ·simp only [Act.put, List.setIfInBounds_toArray, List.set_cons_zero, List.set_cons_succ, i64_w, i32_w]
      rfl
     exact norm_ (by simp only [putAll, Act.put, List.setIfInBounds_toArray, List.set_cons_zero, List.set_cons_succ]) (hCont (gb201) _ ⟨hHeld, kA, kA, kA, kA, kA, GW201.out, GE201.out, NB185_201.out, NB201_185.out, NB190_201.out, NB201_190.out, NB191_201.out, NB201_191.out, NB195_201.out, NB201_195.out, bA⟩)
   ·skip
    refine box_step ?hg (N := 7) ?hd (cs := #[.int .u64 0, .int .u64 0]) (t := 76) ?hr ?_; (case hd => rfl); (case hg => rfl); (case hr => first | (go_simp; done) | (go_simp; rfl))
    intro gb201 hg w27 hbox hb
    have n0_ := Aside0.mk (blk_below (g := gb185) kA hb); have n1_ := Aside0.mk (blk_below (g := gb190) kA hb); have n2_ := Aside0.mk (blk_below (g := gb191) kA hb); have n3_ := Aside0.mk (blk_below (g := gb195) kA hb); have n4_ := Aside0.mk (below_step bA hb); have n5_ := Aside0.mk (hbox); have n6_ := Aside0.mk (gwA hg bA); have n7_ := Aside0.mk (gwA hg bA); have n8_ := Aside0.mk (neA (g := gb185) hg kA); have n9_ := Aside0.mk (neB (g := gb185) hg kA); have n10_ := Aside0.mk (neA (g := gb190) hg kA); have n11_ := Aside0.mk (neB (g := gb190) hg kA); have n12_ := Aside0.mk (neA (g := gb191) hg kA); have n13_ := Aside0.mk (neB (g := gb191) hg kA); have n14_ := Aside0.mk (neA (g := gb195) hg kA); have n15_ := Aside0.mk (neB (g := gb195) hg kA); clear BK185 BK190 BK191 BK195 HB; have BK185 := n0_; have BK190 := n1_; have BK191 := n2_; have BK195 := n3_; have HB := n4_; have BK201 := n5_; have GW201 := n6_; have GE201 := n7_; have NB185_201 := n8_; have NB201_185 := n9_; have NB190_201 := n10_; have NB201_190 := n11_; have NB191_201 := n12_; have NB201_191 := n13_; have NB195_201 := n14_; have NB201_195 := n15_; clear n0_ n1_ n2_ n3_ n4_ n5_ n6_ n7_ n8_ n9_ n10_ n11_ n12_ n13_ n14_ n15_ hb hbox hg
    refine hK.out _ _ ⟨(blk_cell BK191.out 0).trans rfl, (blk_cell BK191.out 1).trans rfl, (blk_cell BK185.out 0).trans rfl, (blk_cell BK185.out 1).trans rfl, (blk_cell BK185.out 2).trans rfl, (blk_cell BK185.out 3).trans rfl, (blk_cell BK185.out 4).trans rfl, (blk_cell BK185.out 5).trans rfl, (blk_cell BK185.out 6).trans rfl, (blk_cell BK185.out 7).trans rfl⟩ (fun hHeld => ?_)
    clear hK K
    refine norm_ (a' := ?_) ?_ ?_
    rotate_left
    ·show Act.put _ (some 7) _ = _
     simp only [Act.put, List.setIfInBounds_toArray, List.set_cons_zero, List.set_cons_succ, i64_w, i32_w]
     rfl
    refine one_ (i := 5) (N := some 25) #[true, true, true, true, true, true, false, true, false, false, false, false, false, false, false, true, false, false] rfl rfl (one_of HT_.out (by kernel_rfl)) (by decide) (fun K hK => ?_)
    refine goes_ Tryd.func67 (by kernel_rfl) rfl #[.agg #[.int .i64 a0_0, .int .i64 a0_1, .int .i64 a0_2, .int .i64 a0_3, .int .i64 a0_4, .int .i64 a0_5, .int .i64 a0_6, .int .i64 a0_7]] (by rfl) rfl rfl aA ?_
    with_reducible refine (config_asked_bound.calls a0_0 a0_1 a0_2 a0_3 a0_4 a0_5 a0_6 a0_7 t196 _ A4.out).mono ?_
    rintro e w28 ⟨rfl, hb⟩
    refine ⟨_, rfl, ?_⟩; have n0_ := Aside0.mk (blk_below (g := gb185) kA hb); have n1_ := Aside0.mk (blk_below (g := gb190) kA hb); have n2_ := Aside0.mk (blk_below (g := gb191) kA hb); have n3_ := Aside0.mk (blk_below (g := gb195) kA hb); have n4_ := Aside0.mk (blk_below (g := gb201) kA hb); have n5_ := Aside0.mk (below_step bA hb); clear BK185 BK190 BK191 BK195 BK201 HB; have BK185 := n0_; have BK190 := n1_; have BK191 := n2_; have BK195 := n3_; have BK201 := n4_; have HB := n5_; clear n0_ n1_ n2_ n3_ n4_ n5_; (try clear hb)
    refine hK.out _ _ ⟨(blk_cell BK191.out 0).trans rfl, (blk_cell BK191.out 1).trans rfl, (blk_cell BK185.out 0).trans rfl, (blk_cell BK185.out 1).trans rfl, (blk_cell BK185.out 2).trans rfl, (blk_cell BK185.out 3).trans rfl, (blk_cell BK185.out 4).trans rfl, (blk_cell BK185.out 5).trans rfl, (blk_cell BK185.out 6).trans rfl, (blk_cell BK185.out 7).trans rfl⟩ (fun hHeld => ?_)
    clear hK K
    refine norm_ (a' := ?_) ?_ ?_
    rotate_left
    ·show Act.put _ (some 25) _ = _
     simp only [Act.put, List.setIfInBounds_toArray, List.set_cons_zero, List.set_cons_succ, i64_w, i32_w]
     rfl
    refine pure_ (i := 6) (N := some 26) (v := ?_) (a' := ?_) #[true, true, true, true, true, true, true, true, false, false, false, false, false, false, false, true, false, false] rfl rfl (any_of HT_.out (by kernel_rfl)) (fun _ _ _ h => h) (Or.inl ⟨by rfl, ?_⟩) ?_ ?_
    rotate_left
    ·intro w'
     go_simp; with_reducible rfl
    rotate_left
    ·simp only [Act.put, List.setIfInBounds_toArray, List.set_cons_zero, List.set_cons_succ, i64_w, i32_w]
     rfl
    refine one_ (i := 8) (N := some 28) #[true, true, true, true, true, true, true, true, true, false, false, false, false, false, false, true, false, false] rfl rfl (one_of HT_.out (by kernel_rfl)) (by decide) (fun K hK => ?_)
    refine goes_ Tryd.func64 (by kernel_rfl) rfl #[.agg #[.int .i64 a0_0, .int .i64 a0_1, .int .i64 a0_2, .int .i64 a0_3, .int .i64 a0_4, .int .i64 a0_5, .int .i64 a0_6, .int .i64 a0_7]] (by rfl) rfl rfl aA ?_
    with_reducible refine (config_asked_fairSize.calls a0_0 a0_1 a0_2 a0_3 a0_4 a0_5 a0_6 a0_7 t197 _ A5.out).mono ?_
    rintro e w29 ⟨rfl, hb⟩
    refine ⟨_, rfl, ?_⟩; have n0_ := Aside0.mk (blk_below (g := gb185) kA hb); have n1_ := Aside0.mk (blk_below (g := gb190) kA hb); have n2_ := Aside0.mk (blk_below (g := gb191) kA hb); have n3_ := Aside0.mk (blk_below (g := gb195) kA hb); have n4_ := Aside0.mk (blk_below (g := gb201) kA hb); have n5_ := Aside0.mk (below_step bA hb); clear BK185 BK190 BK191 BK195 BK201 HB; have BK185 := n0_; have BK190 := n1_; have BK191 := n2_; have BK195 := n3_; have BK201 := n4_; have HB := n5_; clear n0_ n1_ n2_ n3_ n4_ n5_; (try clear hb)
    refine hK.out _ _ ⟨(blk_cell BK191.out 0).trans rfl, (blk_cell BK191.out 1).trans rfl, (blk_cell BK185.out 0).trans rfl, (blk_cell BK185.out 1).trans rfl, (blk_cell BK185.out 2).trans rfl, (blk_cell BK185.out 3).trans rfl, (blk_cell BK185.out 4).trans rfl, (blk_cell BK185.out 5).trans rfl, (blk_cell BK185.out 6).trans rfl, (blk_cell BK185.out 7).trans rfl⟩ (fun hHeld => ?_)
    clear hK K
    refine norm_ (a' := ?_) ?_ ?_
    rotate_left
    ·show Act.put _ (some 28) _ = _
     simp only [Act.put, List.setIfInBounds_toArray, List.set_cons_zero, List.set_cons_succ, i64_w, i32_w]
     rfl
    refine pure_ (i := 9) (N := some 29) (v := ?_) (a' := ?_) #[true, true, true, true, true, true, true, true, true, true, false, false, false, false, false, true, false, false] rfl rfl (any_of HT_.out (by kernel_rfl)) (fun _ _ _ h => h) (Or.inl ⟨by rfl, ?_⟩) ?_ ?_
    rotate_left
    ·intro w'
     go_simp; with_reducible rfl
    rotate_left
    ·simp only [Act.put, List.setIfInBounds_toArray, List.set_cons_zero, List.set_cons_succ, i64_w, i32_w]
     rfl
    refine pure_ (i := 10) (N := some 30) (v := ?_) (a' := ?_) #[true, true, true, true, true, true, true, true, true, true, true, false, false, false, false, true, false, false] rfl rfl (any_of HT_.out (by kernel_rfl)) (fun _ _ _ h => h) (Or.inl ⟨by rfl, ?_⟩) ?_ ?_
    rotate_left
    ·intro w'
     go_simp; with_reducible rfl
    rotate_left
    ·simp only [Act.put, List.setIfInBounds_toArray, List.set_cons_zero, List.set_cons_succ, i64_w, i32_w]
     rfl
    refine one_ (i := 11) (N := some 31) #[true, true, true, true, true, true, true, true, true, true, true, true, false, false, false, true, false, false] rfl rfl (one_of HT_.out (by kernel_rfl)) (by decide) (fun K hK => ?_)
    refine goes_ Tryd.func66 (by kernel_rfl) rfl #[.agg #[.int .u64 t188, .int .u64 t189], .int .u64 (IntKind.u64.wrap (wrap64 ((wrap64 (a0_3 * t196)) + t197)))] (by rfl) rfl rfl aA ?_
    with_reducible refine (wide_Times.calls t188 t189 (IntKind.u64.wrap (wrap64 ((wrap64 (a0_3 * t196)) + t197))) t198 t199 t200 _ A6.out).mono ?_
    rintro e w30 ⟨rfl, hb⟩
    refine ⟨_, rfl, ?_⟩; have n0_ := Aside0.mk (blk_below (g := gb185) kA hb); have n1_ := Aside0.mk (blk_below (g := gb190) kA hb); have n2_ := Aside0.mk (blk_below (g := gb191) kA hb); have n3_ := Aside0.mk (blk_below (g := gb195) kA hb); have n4_ := Aside0.mk (blk_below (g := gb201) kA hb); have n5_ := Aside0.mk (below_step bA hb); clear BK185 BK190 BK191 BK195 BK201 HB; have BK185 := n0_; have BK190 := n1_; have BK191 := n2_; have BK195 := n3_; have BK201 := n4_; have HB := n5_; clear n0_ n1_ n2_ n3_ n4_ n5_; (try clear hb)
    refine hK.out _ _ ⟨(blk_cell BK191.out 0).trans rfl, (blk_cell BK191.out 1).trans rfl, (blk_cell BK185.out 0).trans rfl, (blk_cell BK185.out 1).trans rfl, (blk_cell BK185.out 2).trans rfl, (blk_cell BK185.out 3).trans rfl, (blk_cell BK185.out 4).trans rfl, (blk_cell BK185.out 5).trans rfl, (blk_cell BK185.out 6).trans rfl, (blk_cell BK185.out 7).trans rfl⟩ (fun hHeld => ?_)
    clear hK K
    refine norm_ (a' := ?_) ?_ ?_
    rotate_left
    ·show Act.put _ (some 31) _ = _
     simp only [Act.put, List.setIfInBounds_toArray, List.set_cons_zero, List.set_cons_succ, i64_w, i32_w]
     rfl
    refine pure_ (i := 12) (N := some 19) (v := ?_) (a' := ?_) #[true, true, true, true, true, true, true, true, true, true, true, true, true, false, false, true, false, false] rfl rfl (any_of HT_.out (by kernel_rfl)) (fun _ _ _ h => h) (Or.inl ⟨by rfl, ?_⟩) ?_ ?_
    rotate_left
    ·intro w'
     go_simp; with_reducible rfl
    rotate_left
    ·simp only [Act.put, List.setIfInBounds_toArray, List.set_cons_zero, List.set_cons_succ, i64_w, i32_w]
     rfl
    refine pure_ (i := 13) (N := some 32) (v := ?_) (a' := ?_) #[true, true, true, true, true, true, true, true, true, true, true, true, true, true, false, true, false, false] rfl rfl (any_of HT_.out (by kernel_rfl)) (fun _ _ _ h => h) (Or.inl ⟨by rfl, ?_⟩) ?_ ?_
    rotate_left
    ·intro w'
     go_simp; with_reducible rfl
    rotate_left
    ·simp only [Act.put, List.setIfInBounds_toArray, List.set_cons_zero, List.set_cons_succ, i64_w, i32_w]
     rfl
    refine pure_ (i := 14) (N := some 33) (v := ?_) (a' := ?_) #[true, true, true, true, true, true, true, true, true, true, true, true, true, true, true, true, false, false] rfl rfl (any_of HT_.out (by kernel_rfl)) (fun _ _ _ h => h) (Or.inl ⟨by rfl, ?_⟩) ?_ ?_
    rotate_left
    ·intro w'
     go_simp; with_reducible rfl
    rotate_left
    ·simp only [Act.put, List.setIfInBounds_toArray, List.set_cons_zero, List.set_cons_succ, i64_w, i32_w]
     rfl
    exact norm_ (by simp only [putAll, Act.put, List.setIfInBounds_toArray, List.set_cons_zero, List.set_cons_succ]) (hCont (gb201) _ ⟨hHeld, kA, kA, kA, kA, kA, GW201.out, GE201.out, NB185_201.out, NB201_185.out, NB190_201.out, NB201_190.out, NB191_201.out, NB201_191.out, NB195_201.out, NB201_195.out, bA⟩)
  rintro gb201 w31 ⟨hS_, h0_, h1_, h2_, h3_, h4_, h5_, h6_, h7_, h8_, h9_, h10_, h11_, h12_, h13_, h14_, h15_⟩
  have n0_ : Aside0 (w31.heap[gb185]? = some (.cells #[.int .i64 a0_0, .int .i64 a0_1, .int .i64 a0_2, .int .i64 a0_3, .int .i64 a0_4, .int .i64 a0_5, .int .i64 a0_6, .int .i64 a0_7] 69 (0, 0))) := ⟨h0_⟩
  have n1_ : Aside0 (w31.heap[gb190]? = some (.cells #[.int .u64 t186, .int .u64 t187] 76 (0, 0))) := ⟨h1_⟩
  have n2_ : Aside0 (w31.heap[gb191]? = some (.cells #[.int .u64 t188, .int .u64 t189] 76 (0, 0))) := ⟨h2_⟩
  have n3_ : Aside0 (w31.heap[gb195]? = some (.cells #[.int .u64 t192, .int .u64 t193] 76 (0, 0))) := ⟨h3_⟩
  have n4_ : Aside0 (w31.heap[gb201]? = some (.cells #[.int .u64 0, .int .u64 0] 76 (0, 0))) := ⟨h4_⟩
  have n5_ : Aside0 (w.heap.size ≤ gb201) := ⟨h5_⟩
  have n6_ : Aside0 (w.heap.size ≤ gb201) := ⟨h6_⟩
  have n7_ : Aside0 (gb185 ≠ gb201) := ⟨h7_⟩
  have n8_ : Aside0 (gb201 ≠ gb185) := ⟨h8_⟩
  have n9_ : Aside0 (gb190 ≠ gb201) := ⟨h9_⟩
  have n10_ : Aside0 (gb201 ≠ gb190) := ⟨h10_⟩
  have n11_ : Aside0 (gb191 ≠ gb201) := ⟨h11_⟩
  have n12_ : Aside0 (gb201 ≠ gb191) := ⟨h12_⟩
  have n13_ : Aside0 (gb195 ≠ gb201) := ⟨h13_⟩
  have n14_ : Aside0 (gb201 ≠ gb195) := ⟨h14_⟩
  have n15_ : Aside0 (Below w.heap.size w w31) := ⟨h15_⟩
  clear BK185 BK190 BK191 BK195 HB h0_ h1_ h2_ h3_ h4_ h5_ h6_ h7_ h8_ h9_ h10_ h11_ h12_ h13_ h14_ h15_; have BK185 := n0_; have BK190 := n1_; have BK191 := n2_; have BK195 := n3_; have BK201 := n4_; have GW201 := n5_; have GE201 := n6_; have NB185_201 := n7_; have NB201_185 := n8_; have NB190_201 := n9_; have NB201_190 := n10_; have NB191_201 := n11_; have NB201_191 := n12_; have NB195_201 := n13_; have NB201_195 := n14_; have HB := n15_; clear n0_ n1_ n2_ n3_ n4_ n5_ n6_ n7_ n8_ n9_ n10_ n11_ n12_ n13_ n14_ n15_
  have hHeld : w31.cell? ⟨gb191, 0, none⟩ = some (.int .u64 t188) ∧ w31.cell? ⟨gb191, 1, none⟩ = some (.int .u64 t189) ∧ w31.cell? ⟨gb185, 0, none⟩ = some (.int .i64 a0_0) ∧ w31.cell? ⟨gb185, 1, none⟩ = some (.int .i64 a0_1) ∧ w31.cell? ⟨gb185, 2, none⟩ = some (.int .i64 a0_2) ∧ w31.cell? ⟨gb185, 3, none⟩ = some (.int .i64 a0_3) ∧ w31.cell? ⟨gb185, 4, none⟩ = some (.int .i64 a0_4) ∧ w31.cell? ⟨gb185, 5, none⟩ = some (.int .i64 a0_5) ∧ w31.cell? ⟨gb185, 6, none⟩ = some (.int .i64 a0_6) ∧ w31.cell? ⟨gb185, 7, none⟩ = some (.int .i64 a0_7) := hS_
  refine norm_ (a' := ?_) ?_ ?_
  rotate_left
  ·simp only [putAll, Act.put, List.setIfInBounds_toArray, List.set_cons_zero, List.set_cons_succ]
   rfl
  refine one_ (i := 16) (N := none) #[true, true, true, true, true, true, true, true, true, true, true, true, true, true, true, true, true, false] rfl rfl (one_of HT_.out (by kernel_rfl)) (by decide) (fun K hK => ?_)
  have hs32 : w31.cell? ⟨gb201, 0, none⟩ = some (.int .u64 0) := (blk_cell BK201.out 0).trans rfl
  have hfs32 := blk_frozen BK201.out 0
  have hns32_0 := NB185_201.out
  have hns32_1 := NB190_201.out
  have hns32_2 := NB191_201.out
  have hns32_3 := NB195_201.out
  have hms32_0 := NB201_185.out
  have hms32_1 := NB201_190.out
  have hms32_2 := NB201_191.out
  have hms32_3 := NB201_195.out
  have hs33 : w31.cell? ⟨gb201, 1, none⟩ = some (.int .u64 0) := (blk_cell BK201.out 1).trans rfl
  have hfs33 := blk_frozen BK201.out 1
  have hns33_0 := NB185_201.out
  have hns33_1 := NB190_201.out
  have hns33_2 := NB191_201.out
  have hns33_3 := NB195_201.out
  have hms33_0 := NB201_185.out
  have hms33_1 := NB201_190.out
  have hms33_2 := NB201_191.out
  have hms33_3 := NB201_195.out
  refine skip_ (w1 := ?_) (by rfl) rfl ?_ ?_
  rotate_left
  ·go_simp
   rfl
  refine hK.out _ _ ⟨((cell_far (p := ⟨gb201, _, none⟩) NB191_201.out _).trans (((cell_far (p := ⟨gb201, _, none⟩) NB191_201.out _).trans (hHeld.1)))), ((cell_far (p := ⟨gb201, _, none⟩) NB191_201.out _).trans (((cell_far (p := ⟨gb201, _, none⟩) NB191_201.out _).trans (hHeld.2.1)))), ((cell_far (p := ⟨gb201, _, none⟩) NB185_201.out _).trans (((cell_far (p := ⟨gb201, _, none⟩) NB185_201.out _).trans (hHeld.2.2.1)))), ((cell_far (p := ⟨gb201, _, none⟩) NB185_201.out _).trans (((cell_far (p := ⟨gb201, _, none⟩) NB185_201.out _).trans (hHeld.2.2.2.1)))), ((cell_far (p := ⟨gb201, _, none⟩) NB185_201.out _).trans (((cell_far (p := ⟨gb201, _, none⟩) NB185_201.out _).trans (hHeld.2.2.2.2.1)))), ((cell_far (p := ⟨gb201, _, none⟩) NB185_201.out _).trans (((cell_far (p := ⟨gb201, _, none⟩) NB185_201.out _).trans (hHeld.2.2.2.2.2.1)))), ((cell_far (p := ⟨gb201, _, none⟩) NB185_201.out _).trans (((cell_far (p := ⟨gb201, _, none⟩) NB185_201.out _).trans (hHeld.2.2.2.2.2.2.1)))), ((cell_far (p := ⟨gb201, _, none⟩) NB185_201.out _).trans (((cell_far (p := ⟨gb201, _, none⟩) NB185_201.out _).trans (hHeld.2.2.2.2.2.2.2.1)))), ((cell_far (p := ⟨gb201, _, none⟩) NB185_201.out _).trans (((cell_far (p := ⟨gb201, _, none⟩) NB185_201.out _).trans (hHeld.2.2.2.2.2.2.2.2.1)))), ((cell_far (p := ⟨gb201, _, none⟩) NB185_201.out _).trans (((cell_far (p := ⟨gb201, _, none⟩) NB185_201.out _).trans (hHeld.2.2.2.2.2.2.2.2.2))))⟩ (fun hHeld => ?_)
  clear hK K
  refine pure_ (i := 17) (N := some 8) (v := ?_) (a' := ?_) #[true, true, true, true, true, true, true, true, true, true, true, true, true, true, true, true, true, true] rfl rfl (any_of HT_.out (by kernel_rfl)) (fun _ _ _ h => h) (Or.inl ⟨by rfl, ?_⟩) ?_ ?_
  rotate_left
  ·intro w'
   go_simp; with_reducible rfl
  rotate_left
  ·simp only [Act.put, List.setIfInBounds_toArray, List.set_cons_zero, List.set_cons_succ, i64_w, i32_w]
   rfl
  refine done_ (done_of HT_.out (by kernel_rfl)) ?_
  have hnb34 := NB195_201.out
  have hnc34 := NB201_195.out
  have hcz35_0 : w31.cell? ⟨gb195, 0, none⟩ = some (.int .u64 t192) := (blk_cell BK195.out 0).trans rfl
  have hcz35_1 : w31.cell? ⟨gb195, 1, none⟩ = some (.int .u64 t193) := (blk_cell BK195.out 1).trans rfl
  have hfz35_0 := blk_frozen BK195.out 0
  have hfz35_1 := blk_frozen BK195.out 1
  have hnb36 := NB201_185.out
  have hnc36 := NB185_201.out
  have hnb37 := NB201_190.out
  have hnc37 := NB190_201.out
  have hnb38 := NB201_191.out
  have hnc38 := NB191_201.out
  have hcz39_0 : w31.cell? ⟨gb201, 0, none⟩ = some (.int .u64 0) := (blk_cell BK201.out 0).trans rfl
  have hcz39_1 : w31.cell? ⟨gb201, 1, none⟩ = some (.int .u64 0) := (blk_cell BK201.out 1).trans rfl
  have hfz39_0 := blk_frozen BK201.out 0
  have hfz39_1 := blk_frozen BK201.out 1
  try go_wp2_with (first | ((with_reducible refine gate_callee (f := 43) rfl ?_); refine goesL_ (some 36) rfl rfl Tryd.func43 (by kernel_rfl) rfl #[.agg #[.int .u64 t192, .int .u64 t193], .agg #[.int .u64 t198, .int .u64 t199]] rfl aA ?_; (with_reducible refine (wide_Cmp.calls t192 t193 t198 t199 t202 _ A7.out).mono ?_); rintro e w40 ⟨rfl, hb⟩; refine ⟨_, rfl, ?_⟩; have n0_ := Aside0.mk (blk_below (g := gb185) (o := .cells #[.int .i64 a0_0, .int .i64 a0_1, .int .i64 a0_2, .int .i64 a0_3, .int .i64 a0_4, .int .i64 a0_5, .int .i64 a0_6, .int .i64 a0_7] 69 (0, 0)) (by (with_reducible repeat (first | refine blk_drewN ?_ _ | refine blk_drew ?_ | refine blk_alloc ?_ _)); refine blk_far ?_ NB185_201.out _; (with_reducible repeat (first | refine blk_drewN ?_ _ | refine blk_drew ?_ | refine blk_alloc ?_ _)); refine blk_far ?_ NB185_201.out _; exact kA) hb); have n1_ := Aside0.mk (blk_below (g := gb190) (o := .cells #[.int .u64 t186, .int .u64 t187] 76 (0, 0)) (by (with_reducible repeat (first | refine blk_drewN ?_ _ | refine blk_drew ?_ | refine blk_alloc ?_ _)); refine blk_far ?_ NB190_201.out _; (with_reducible repeat (first | refine blk_drewN ?_ _ | refine blk_drew ?_ | refine blk_alloc ?_ _)); refine blk_far ?_ NB190_201.out _; exact kA) hb); have n2_ := Aside0.mk (blk_below (g := gb191) (o := .cells #[.int .u64 t188, .int .u64 t189] 76 (0, 0)) (by (with_reducible repeat (first | refine blk_drewN ?_ _ | refine blk_drew ?_ | refine blk_alloc ?_ _)); refine blk_far ?_ NB191_201.out _; (with_reducible repeat (first | refine blk_drewN ?_ _ | refine blk_drew ?_ | refine blk_alloc ?_ _)); refine blk_far ?_ NB191_201.out _; exact kA) hb); have n3_ := Aside0.mk (blk_below (g := gb195) (o := .cells #[.int .u64 t192, .int .u64 t193] 76 (0, 0)) (by (with_reducible repeat (first | refine blk_drewN ?_ _ | refine blk_drew ?_ | refine blk_alloc ?_ _)); refine blk_far ?_ NB195_201.out _; (with_reducible repeat (first | refine blk_drewN ?_ _ | refine blk_drew ?_ | refine blk_alloc ?_ _)); refine blk_far ?_ NB195_201.out _; exact kA) hb); have n4_ := Aside0.mk (blk_below (g := gb201) (o := .cells #[.int .u64 t198, .int .u64 t199] 76 (0, 0)) (by (with_reducible repeat (first | refine blk_drewN ?_ _ | refine blk_drew ?_ | refine blk_alloc ?_ _)); refine blk_put (cs := #[.int .u64 t198, .int .u64 0]) ?_ 1 _ rfl; (with_reducible repeat (first | refine blk_drewN ?_ _ | refine blk_drew ?_ | refine blk_alloc ?_ _)); refine blk_put (cs := #[.int .u64 0, .int .u64 0]) ?_ 0 _ rfl; exact kA) hb); have n5_ := Aside0.mk (below_step bA hb); clear BK185 BK190 BK191 BK195 BK201 HB; have BK185 := n0_; have BK190 := n1_; have BK191 := n2_; have BK195 := n3_; have BK201 := n4_; have HB := n5_; clear n0_ n1_ n2_ n3_ n4_ n5_; (try clear hb)))
  go_ret
  exact ⟨by first | rfl | (simp [errW_none, errW_some] <;> rfl) | (simp [*, errW_none, errW_some] <;> rfl), bA⟩
 ·rw [if_neg c8] at H
  have c8b0 : decide (0 < t202) = false := decide_eq_false c8
  clear c8
  obtain rfl := Option.some.inj H
  go_enter Tryd.func37, Tryd.ntmps37
  try go_wp2_with (first | ((with_reducible refine gate_dst (N := 1) rfl ?_); refine bxA 1 #[.int .i64 a0_0, .int .i64 a0_1, .int .i64 a0_2, .int .i64 a0_3, .int .i64 a0_4, .int .i64 a0_5, .int .i64 a0_6, .int .i64 a0_7] 69 ?_; intro gb185 hg w41 hbox hb; have n0_ := Aside0.mk (below_step bA hb); have n1_ := Aside0.mk (hbox); have n2_ := Aside0.mk (gwA hg bA); have n3_ := Aside0.mk (gwA hg bA); clear HB; have HB := n0_; have BK185 := n1_; have GW185 := n2_; have GE185 := n3_; clear n0_ n1_ n2_ n3_ hb hbox hg; have hcz42_0 : w41.cell? ⟨gb185, 0, none⟩ = some (.int .i64 a0_0) := (blk_cell BK185.out 0).trans rfl; have hcz42_1 : w41.cell? ⟨gb185, 1, none⟩ = some (.int .i64 a0_1) := (blk_cell BK185.out 1).trans rfl; have hcz42_2 : w41.cell? ⟨gb185, 2, none⟩ = some (.int .i64 a0_2) := (blk_cell BK185.out 2).trans rfl; have hcz42_3 : w41.cell? ⟨gb185, 3, none⟩ = some (.int .i64 a0_3) := (blk_cell BK185.out 3).trans rfl; have hcz42_4 : w41.cell? ⟨gb185, 4, none⟩ = some (.int .i64 a0_4) := (blk_cell BK185.out 4).trans rfl; have hcz42_5 : w41.cell? ⟨gb185, 5, none⟩ = some (.int .i64 a0_5) := (blk_cell BK185.out 5).trans rfl; have hcz42_6 : w41.cell? ⟨gb185, 6, none⟩ = some (.int .i64 a0_6) := (blk_cell BK185.out 6).trans rfl; have hcz42_7 : w41.cell? ⟨gb185, 7, none⟩ = some (.int .i64 a0_7) := (blk_cell BK185.out 7).trans rfl; have hfz42_0 := blk_frozen BK185.out 0; have hfz42_1 := blk_frozen BK185.out 1; have hfz42_2 := blk_frozen BK185.out 2; have hfz42_3 := blk_frozen BK185.out 3; have hfz42_4 := blk_frozen BK185.out 4; have hfz42_5 := blk_frozen BK185.out 5; have hfz42_6 := blk_frozen BK185.out 6; have hfz42_7 := blk_frozen BK185.out 7) | ((with_reducible refine gate_callee (f := 65) rfl ?_); refine goesL_ (some 11) rfl rfl Tryd.func65 (by kernel_rfl) rfl #[.agg #[.int .i64 a0_0, .int .i64 a0_1, .int .i64 a0_2, .int .i64 a0_3, .int .i64 a0_4, .int .i64 a0_5, .int .i64 a0_6, .int .i64 a0_7]] rfl aA ?_; (with_reducible refine (config_asked_bounds.calls a0_0 a0_1 a0_2 a0_3 a0_4 a0_5 a0_6 a0_7 t186 t187 t188 t189 _ A2.out).mono ?_); rintro e w43 ⟨rfl, hb⟩; refine ⟨_, rfl, ?_⟩; have n0_ := Aside0.mk (blk_below (g := gb185) kA hb); have n1_ := Aside0.mk (below_step bA hb); clear BK185 HB; have BK185 := n0_; have HB := n1_; clear n0_ n1_; (try clear hb)) | ((with_reducible refine gate_dst (N := 3) rfl ?_); refine bxA 3 #[.int .u64 0, .int .u64 0] 76 ?_; intro gb190 hg w44 hbox hb; have n0_ := Aside0.mk (blk_below (g := gb185) kA hb); have n1_ := Aside0.mk (below_step bA hb); have n2_ := Aside0.mk (hbox); have n3_ := Aside0.mk (gwA hg bA); have n4_ := Aside0.mk (gwA hg bA); have n5_ := Aside0.mk (neA (g := gb185) hg kA); have n6_ := Aside0.mk (neB (g := gb185) hg kA); clear BK185 HB; have BK185 := n0_; have HB := n1_; have BK190 := n2_; have GW190 := n3_; have GE190 := n4_; have NB185_190 := n5_; have NB190_185 := n6_; clear n0_ n1_ n2_ n3_ n4_ n5_ n6_ hb hbox hg) | ((with_reducible refine gate_dst (N := 4) rfl ?_); refine bxA 4 #[.int .u64 0, .int .u64 0] 76 ?_; intro gb191 hg w45 hbox hb; have n0_ := Aside0.mk (blk_below (g := gb185) kA hb); have n1_ := Aside0.mk (blk_below (g := gb190) kA hb); have n2_ := Aside0.mk (below_step bA hb); have n3_ := Aside0.mk (hbox); have n4_ := Aside0.mk (gwA hg bA); have n5_ := Aside0.mk (gwA hg bA); have n6_ := Aside0.mk (neA (g := gb185) hg kA); have n7_ := Aside0.mk (neB (g := gb185) hg kA); have n8_ := Aside0.mk (neA (g := gb190) hg kA); have n9_ := Aside0.mk (neB (g := gb190) hg kA); clear BK185 BK190 HB; have BK185 := n0_; have BK190 := n1_; have HB := n2_; have BK191 := n3_; have GW191 := n4_; have GE191 := n5_; have NB185_191 := n6_; have NB191_185 := n7_; have NB190_191 := n8_; have NB191_190 := n9_; clear n0_ n1_ n2_ n3_ n4_ n5_ n6_ n7_ n8_ n9_ hb hbox hg; have hnb46 := NB190_185.out; have hnc46 := NB185_190.out; have hnb47 := NB190_191.out; have hnc47 := NB191_190.out; have hcz48_0 : w45.cell? ⟨gb190, 0, none⟩ = some (.int .u64 0) := (blk_cell BK190.out 0).trans rfl; have hcz48_1 : w45.cell? ⟨gb190, 1, none⟩ = some (.int .u64 0) := (blk_cell BK190.out 1).trans rfl; have hfz48_0 := blk_frozen BK190.out 0; have hfz48_1 := blk_frozen BK190.out 1; have hnb49 := NB191_185.out; have hnc49 := NB185_191.out; have hcz50_0 : w45.cell? ⟨gb191, 0, none⟩ = some (.int .u64 0) := (blk_cell BK191.out 0).trans rfl; have hcz50_1 : w45.cell? ⟨gb191, 1, none⟩ = some (.int .u64 0) := (blk_cell BK191.out 1).trans rfl; have hfz50_0 := blk_frozen BK191.out 0; have hfz50_1 := blk_frozen BK191.out 1) | ((with_reducible refine gate_callee (f := 66) rfl ?_); refine goesL_ (some 16) rfl rfl Tryd.func66 (by kernel_rfl) rfl #[.agg #[.int .u64 t186, .int .u64 t187], .int .u64 1000] rfl aA ?_; (with_reducible refine (wide_Times.calls t186 t187 1000 t192 t193 t194 _ A3.out).mono ?_); rintro e w51 ⟨rfl, hb⟩; refine ⟨_, rfl, ?_⟩; have n0_ := Aside0.mk (blk_below (g := gb185) (o := .cells #[.int .i64 a0_0, .int .i64 a0_1, .int .i64 a0_2, .int .i64 a0_3, .int .i64 a0_4, .int .i64 a0_5, .int .i64 a0_6, .int .i64 a0_7] 69 (0, 0)) (by (with_reducible repeat (first | refine blk_drewN ?_ _ | refine blk_drew ?_ | refine blk_alloc ?_ _)); refine blk_far ?_ NB185_191.out _; (with_reducible repeat (first | refine blk_drewN ?_ _ | refine blk_drew ?_ | refine blk_alloc ?_ _)); refine blk_far ?_ NB185_191.out _; (with_reducible repeat (first | refine blk_drewN ?_ _ | refine blk_drew ?_ | refine blk_alloc ?_ _)); refine blk_far ?_ NB185_190.out _; (with_reducible repeat (first | refine blk_drewN ?_ _ | refine blk_drew ?_ | refine blk_alloc ?_ _)); refine blk_far ?_ NB185_190.out _; exact kA) hb); have n1_ := Aside0.mk (blk_below (g := gb190) (o := .cells #[.int .u64 t186, .int .u64 t187] 76 (0, 0)) (by (with_reducible repeat (first | refine blk_drewN ?_ _ | refine blk_drew ?_ | refine blk_alloc ?_ _)); refine blk_far ?_ NB190_191.out _; (with_reducible repeat (first | refine blk_drewN ?_ _ | refine blk_drew ?_ | refine blk_alloc ?_ _)); refine blk_far ?_ NB190_191.out _; (with_reducible repeat (first | refine blk_drewN ?_ _ | refine blk_drew ?_ | refine blk_alloc ?_ _)); refine blk_put (cs := #[.int .u64 t186, .int .u64 0]) ?_ 1 _ rfl; (with_reducible repeat (first | refine blk_drewN ?_ _ | refine blk_drew ?_ | refine blk_alloc ?_ _)); refine blk_put (cs := #[.int .u64 0, .int .u64 0]) ?_ 0 _ rfl; exact kA) hb); have n2_ := Aside0.mk (blk_below (g := gb191) (o := .cells #[.int .u64 t188, .int .u64 t189] 76 (0, 0)) (by (with_reducible repeat (first | refine blk_drewN ?_ _ | refine blk_drew ?_ | refine blk_alloc ?_ _)); refine blk_put (cs := #[.int .u64 t188, .int .u64 0]) ?_ 1 _ rfl; (with_reducible repeat (first | refine blk_drewN ?_ _ | refine blk_drew ?_ | refine blk_alloc ?_ _)); refine blk_put (cs := #[.int .u64 0, .int .u64 0]) ?_ 0 _ rfl; (with_reducible repeat (first | refine blk_drewN ?_ _ | refine blk_drew ?_ | refine blk_alloc ?_ _)); refine blk_far ?_ NB191_190.out _; (with_reducible repeat (first | refine blk_drewN ?_ _ | refine blk_drew ?_ | refine blk_alloc ?_ _)); refine blk_far ?_ NB191_190.out _; exact kA) hb); have n3_ := Aside0.mk (below_step bA hb); clear BK185 BK190 BK191 HB; have BK185 := n0_; have BK190 := n1_; have BK191 := n2_; have HB := n3_; clear n0_ n1_ n2_ n3_; (try clear hb)) | ((with_reducible refine gate_dst (N := 5) rfl ?_); refine bxA 5 #[.int .u64 0, .int .u64 0] 76 ?_; intro gb195 hg w52 hbox hb; have n0_ := Aside0.mk (blk_below (g := gb185) kA hb); have n1_ := Aside0.mk (blk_below (g := gb190) kA hb); have n2_ := Aside0.mk (blk_below (g := gb191) kA hb); have n3_ := Aside0.mk (below_step bA hb); have n4_ := Aside0.mk (hbox); have n5_ := Aside0.mk (gwA hg bA); have n6_ := Aside0.mk (gwA hg bA); have n7_ := Aside0.mk (neA (g := gb185) hg kA); have n8_ := Aside0.mk (neB (g := gb185) hg kA); have n9_ := Aside0.mk (neA (g := gb190) hg kA); have n10_ := Aside0.mk (neB (g := gb190) hg kA); have n11_ := Aside0.mk (neA (g := gb191) hg kA); have n12_ := Aside0.mk (neB (g := gb191) hg kA); clear BK185 BK190 BK191 HB; have BK185 := n0_; have BK190 := n1_; have BK191 := n2_; have HB := n3_; have BK195 := n4_; have GW195 := n5_; have GE195 := n6_; have NB185_195 := n7_; have NB195_185 := n8_; have NB190_195 := n9_; have NB195_190 := n10_; have NB191_195 := n11_; have NB195_191 := n12_; clear n0_ n1_ n2_ n3_ n4_ n5_ n6_ n7_ n8_ n9_ n10_ n11_ n12_ hb hbox hg; have hnb53 := NB195_185.out; have hnc53 := NB185_195.out; have hnb54 := NB195_190.out; have hnc54 := NB190_195.out; have hnb55 := NB195_191.out; have hnc55 := NB191_195.out; have hcz56_0 : w52.cell? ⟨gb195, 0, none⟩ = some (.int .u64 0) := (blk_cell BK195.out 0).trans rfl; have hcz56_1 : w52.cell? ⟨gb195, 1, none⟩ = some (.int .u64 0) := (blk_cell BK195.out 1).trans rfl; have hfz56_0 := blk_frozen BK195.out 0; have hfz56_1 := blk_frozen BK195.out 1))
  have n0_ : Aside0 (((w52.setCell ⟨gb195, 0, none⟩ (.int .u64 t192)).setCell ⟨gb195, 1, none⟩ (.int .u64 t193)).heap[gb185]? = some (.cells #[.int .i64 a0_0, .int .i64 a0_1, .int .i64 a0_2, .int .i64 a0_3, .int .i64 a0_4, .int .i64 a0_5, .int .i64 a0_6, .int .i64 a0_7] 69 (0, 0))) := ⟨by (with_reducible repeat (first | refine blk_drewN ?_ _ | refine blk_drew ?_ | refine blk_alloc ?_ _)); refine blk_far ?_ NB185_195.out _; (with_reducible repeat (first | refine blk_drewN ?_ _ | refine blk_drew ?_ | refine blk_alloc ?_ _)); refine blk_far ?_ NB185_195.out _; exact kA⟩
  have n1_ : Aside0 (((w52.setCell ⟨gb195, 0, none⟩ (.int .u64 t192)).setCell ⟨gb195, 1, none⟩ (.int .u64 t193)).heap[gb190]? = some (.cells #[.int .u64 t186, .int .u64 t187] 76 (0, 0))) := ⟨by (with_reducible repeat (first | refine blk_drewN ?_ _ | refine blk_drew ?_ | refine blk_alloc ?_ _)); refine blk_far ?_ NB190_195.out _; (with_reducible repeat (first | refine blk_drewN ?_ _ | refine blk_drew ?_ | refine blk_alloc ?_ _)); refine blk_far ?_ NB190_195.out _; exact kA⟩
  have n2_ : Aside0 (((w52.setCell ⟨gb195, 0, none⟩ (.int .u64 t192)).setCell ⟨gb195, 1, none⟩ (.int .u64 t193)).heap[gb191]? = some (.cells #[.int .u64 t188, .int .u64 t189] 76 (0, 0))) := ⟨by (with_reducible repeat (first | refine blk_drewN ?_ _ | refine blk_drew ?_ | refine blk_alloc ?_ _)); refine blk_far ?_ NB191_195.out _; (with_reducible repeat (first | refine blk_drewN ?_ _ | refine blk_drew ?_ | refine blk_alloc ?_ _)); refine blk_far ?_ NB191_195.out _; exact kA⟩
  have n3_ : Aside0 (((w52.setCell ⟨gb195, 0, none⟩ (.int .u64 t192)).setCell ⟨gb195, 1, none⟩ (.int .u64 t193)).heap[gb195]? = some (.cells #[.int .u64 t192, .int .u64 t193] 76 (0, 0))) := ⟨by (with_reducible repeat (first | refine blk_drewN ?_ _ | refine blk_drew ?_ | refine blk_alloc ?_ _)); refine blk_put (cs := #[.int .u64 t192, .int .u64 0]) ?_ 1 _ rfl; (with_reducible repeat (first | refine blk_drewN ?_ _ | refine blk_drew ?_ | refine blk_alloc ?_ _)); refine blk_put (cs := #[.int .u64 0, .int .u64 0]) ?_ 0 _ rfl; exact kA⟩
  have n4_ : Aside0 (Below w.heap.size w ((w52.setCell ⟨gb195, 0, none⟩ (.int .u64 t192)).setCell ⟨gb195, 1, none⟩ (.int .u64 t193))) := ⟨bA⟩
  (try clear BK185); (try clear BK190); (try clear BK191); (try clear BK195); (try clear HB)
  generalize ((w52.setCell ⟨gb195, 0, none⟩ (.int .u64 t192)).setCell ⟨gb195, 1, none⟩ (.int .u64 t193)) = w57 at n0_ n1_ n2_ n3_ n4_ ⊢
  have BK185 := n0_; have BK190 := n1_; have BK191 := n2_; have BK195 := n3_; have HB := n4_; clear n0_ n1_ n2_ n3_ n4_; have n0_ := Aside0.mk (blk_drew BK185.out); have n1_ := Aside0.mk (blk_drew BK190.out); have n2_ := Aside0.mk (blk_drew BK191.out); have n3_ := Aside0.mk (blk_drew BK195.out); have n4_ := Aside0.mk (below_drew1 HB.out); clear BK185 BK190 BK191 BK195 HB; have BK185 := n0_; have BK190 := n1_; have BK191 := n2_; have BK195 := n3_; have HB := n4_; clear n0_ n1_ n2_ n3_ n4_
  refine start_ (n := 18) (S := fun w' => w'.cell? ⟨gb191, 0, none⟩ = some (.int .u64 t188) ∧ w'.cell? ⟨gb191, 1, none⟩ = some (.int .u64 t189) ∧ w'.cell? ⟨gb185, 0, none⟩ = some (.int .i64 a0_0) ∧ w'.cell? ⟨gb185, 1, none⟩ = some (.int .i64 a0_1) ∧ w'.cell? ⟨gb185, 2, none⟩ = some (.int .i64 a0_2) ∧ w'.cell? ⟨gb185, 3, none⟩ = some (.int .i64 a0_3) ∧ w'.cell? ⟨gb185, 4, none⟩ = some (.int .i64 a0_4) ∧ w'.cell? ⟨gb185, 5, none⟩ = some (.int .i64 a0_5) ∧ w'.cell? ⟨gb185, 6, none⟩ = some (.int .i64 a0_6) ∧ w'.cell? ⟨gb185, 7, none⟩ = some (.int .i64 a0_7)) (ds := []) #[false, false, false, false, false, false, false, false, false, false, false, false, false, false, false, false, false, false] (by kernel_rfl) rfl rfl ⟨(blk_cell BK191.out 0).trans rfl, (blk_cell BK191.out 1).trans rfl, (blk_cell BK185.out 0).trans rfl, (blk_cell BK185.out 1).trans rfl, (blk_cell BK185.out 2).trans rfl, (blk_cell BK185.out 3).trans rfl, (blk_cell BK185.out 4).trans rfl, (blk_cell BK185.out 5).trans rfl, (blk_cell BK185.out 6).trans rfl, (blk_cell BK185.out 7).trans rfl⟩ (fun hHeld => ?_); refine with_tabW config_asked_off.tab3 config_asked_off.bits3 (fun HT_ HW_ => ?_)
  generalize w57.drew = w58 at BK185 BK190 BK191 BK195 HB hHeld ⊢
  refine pure_ (i := 1) (N := some 21) (v := ?_) (a' := ?_) #[false, true, false, false, false, false, false, false, false, false, false, false, false, false, false, false, false, false] rfl rfl (any_of HT_.out (by kernel_rfl)) (fun _ _ _ h => h) (Or.inl ⟨by rfl, ?_⟩) ?_ ?_
  rotate_left
  ·intro w'
   go_simp; with_reducible rfl
  rotate_left
  ·simp only [Act.put, List.setIfInBounds_toArray, List.set_cons_zero, List.set_cons_succ, i64_w, i32_w]
   rfl
  refine pure_ (i := 2) (N := some 22) (v := ?_) (a' := ?_) #[false, true, true, false, false, false, false, false, false, false, false, false, false, false, false, false, false, false] rfl rfl (any_of HT_.out (by kernel_rfl)) (fun _ _ _ h => h) (Or.inl ⟨by rfl, ?_⟩) ?_ ?_
  rotate_left
  ·intro w'
   go_simp; with_reducible rfl
  rotate_left
  ·simp only [Act.put, List.setIfInBounds_toArray, List.set_cons_zero, List.set_cons_succ, i64_w, i32_w]
   rfl
  refine take_ (i := 0) (N := some 20) (v := ?_) (a' := ?_) #[true, true, true, false, false, false, false, false, false, false, false, false, false, false, false, false, false, false] rfl rfl (take_ofW HT_.out HW_.out (by kernel_rfl)) (fun _ _ _ h => h) (Or.inl ⟨by rfl, ?_⟩) hHeld ?_ ?_
  rotate_left
  ·rintro w' ⟨s0, s1, s2, s3, s4, s5, s6, s7, s8, s9⟩
   go_simp; with_reducible rfl
  rotate_left
  ·simp only [Act.put, List.setIfInBounds_toArray, List.set_cons_zero, List.set_cons_succ, i64_w, i32_w]
   rfl
  refine take_ (i := 3) (N := some 23) (v := ?_) (a' := ?_) #[true, true, true, true, false, false, false, false, false, false, false, false, false, false, false, false, false, false] rfl rfl (take_ofW HT_.out HW_.out (by kernel_rfl)) (fun _ _ _ h => h) (Or.inl ⟨by rfl, ?_⟩) hHeld ?_ ?_
  rotate_left
  ·rintro w' ⟨s0, s1, s2, s3, s4, s5, s6, s7, s8, s9⟩
   go_simp; with_reducible rfl
  rotate_left
  ·simp only [Act.put, List.setIfInBounds_toArray, List.set_cons_zero, List.set_cons_succ, i64_w, i32_w]
   rfl
  refine take_ (i := 4) (N := some 24) (v := ?_) (a' := ?_) #[true, true, true, true, true, false, false, false, false, false, false, false, false, false, false, false, false, false] rfl rfl (take_ofW HT_.out HW_.out (by kernel_rfl)) (fun _ _ _ h => h) (Or.inl ⟨by rfl, ?_⟩) hHeld ?_ ?_
  rotate_left
  ·rintro w' ⟨s0, s1, s2, s3, s4, s5, s6, s7, s8, s9⟩
   go_simp; with_reducible rfl
  rotate_left
  ·simp only [Act.put, List.setIfInBounds_toArray, List.set_cons_zero, List.set_cons_succ, i64_w, i32_w]
   rfl
  refine take_ (i := 7) (N := some 27) (v := ?_) (a' := ?_) #[true, true, true, true, true, false, false, true, false, false, false, false, false, false, false, false, false, false] rfl rfl (take_ofW HT_.out HW_.out (by kernel_rfl)) (fun _ _ _ h => h) (Or.inl ⟨by rfl, ?_⟩) hHeld ?_ ?_
  rotate_left
  ·rintro w' ⟨s0, s1, s2, s3, s4, s5, s6, s7, s8, s9⟩
   go_simp; with_reducible rfl
  rotate_left
  ·simp only [Act.put, List.setIfInBounds_toArray, List.set_cons_zero, List.set_cons_succ, i64_w, i32_w]
   rfl
  refine join_ (σ := Nat) 2 #[true, true, true, true, true, true, true, true, true, true, true, true, true, true, true, true, false, false] (fun s_ => [(25, .int .i64 t196), (28, .int .i64 t197), (31, .tuple #[.agg #[.int .u64 t198, .int .u64 t199], .bool t200]), (7, .pointer (some ⟨s_, 0, none⟩)), (26, .int .i64 (wrap64 (a0_3 * t196))), (29, .int .i64 (wrap64 ((wrap64 (a0_3 * t196)) + t197))), (30, .int .u64 (IntKind.u64.wrap (wrap64 ((wrap64 (a0_3 * t196)) + t197)))), (19, .tuple #[.agg #[.int .u64 t198, .int .u64 t199], .bool t200]), (32, .agg #[.int .u64 t198, .int .u64 t199]), (33, .bool t200)]) (fun s_ w' => (w'.cell? ⟨gb191, 0, none⟩ = some (.int .u64 t188) ∧ w'.cell? ⟨gb191, 1, none⟩ = some (.int .u64 t189) ∧ w'.cell? ⟨gb185, 0, none⟩ = some (.int .i64 a0_0) ∧ w'.cell? ⟨gb185, 1, none⟩ = some (.int .i64 a0_1) ∧ w'.cell? ⟨gb185, 2, none⟩ = some (.int .i64 a0_2) ∧ w'.cell? ⟨gb185, 3, none⟩ = some (.int .i64 a0_3) ∧ w'.cell? ⟨gb185, 4, none⟩ = some (.int .i64 a0_4) ∧ w'.cell? ⟨gb185, 5, none⟩ = some (.int .i64 a0_5) ∧ w'.cell? ⟨gb185, 6, none⟩ = some (.int .i64 a0_6) ∧ w'.cell? ⟨gb185, 7, none⟩ = some (.int .i64 a0_7)) ∧ (w'.heap[gb185]? = some (.cells #[.int .i64 a0_0, .int .i64 a0_1, .int .i64 a0_2, .int .i64 a0_3, .int .i64 a0_4, .int .i64 a0_5, .int .i64 a0_6, .int .i64 a0_7] 69 (0, 0))) ∧ (w'.heap[gb190]? = some (.cells #[.int .u64 t186, .int .u64 t187] 76 (0, 0))) ∧ (w'.heap[gb191]? = some (.cells #[.int .u64 t188, .int .u64 t189] 76 (0, 0))) ∧ (w'.heap[gb195]? = some (.cells #[.int .u64 t192, .int .u64 t193] 76 (0, 0))) ∧ (w'.heap[s_]? = some (.cells #[.int .u64 0, .int .u64 0] 76 (0, 0))) ∧ (w.heap.size ≤ s_) ∧ (w.heap.size ≤ s_) ∧ (gb185 ≠ s_) ∧ (s_ ≠ gb185) ∧ (gb190 ≠ s_) ∧ (s_ ≠ gb190) ∧ (gb191 ≠ s_) ∧ (s_ ≠ gb191) ∧ (gb195 ≠ s_) ∧ (s_ ≠ gb195) ∧ (Below w.heap.size w w')) ?_ ?_
  rotate_left
  ·intro hCont
   refine two_ (i := 5) (j := 15) (Ni := some 25) (Nj := some 7) #[true, true, true, true, true, true, false, true, false, false, false, false, false, false, false, false, false, false] #[true, true, true, true, true, false, false, true, false, false, false, false, false, false, false, true, false, false] rfl rfl rfl rfl (two_of HT_.out (by kernel_rfl)) (by decide) (by decide) (fun K hK => ?_) (fun K hK => ?_)
   ·skip
    refine goes_ Tryd.func67 (by kernel_rfl) rfl #[.agg #[.int .i64 a0_0, .int .i64 a0_1, .int .i64 a0_2, .int .i64 a0_3, .int .i64 a0_4, .int .i64 a0_5, .int .i64 a0_6, .int .i64 a0_7]] (by rfl) rfl rfl aA ?_
    with_reducible refine (config_asked_bound.calls a0_0 a0_1 a0_2 a0_3 a0_4 a0_5 a0_6 a0_7 t196 _ A4.out).mono ?_
    rintro e w59 ⟨rfl, hb⟩
    refine ⟨_, rfl, ?_⟩; have n0_ := Aside0.mk (blk_below (g := gb185) kA hb); have n1_ := Aside0.mk (blk_below (g := gb190) kA hb); have n2_ := Aside0.mk (blk_below (g := gb191) kA hb); have n3_ := Aside0.mk (blk_below (g := gb195) kA hb); have n4_ := Aside0.mk (below_step bA hb); clear BK185 BK190 BK191 BK195 HB; have BK185 := n0_; have BK190 := n1_; have BK191 := n2_; have BK195 := n3_; have HB := n4_; clear n0_ n1_ n2_ n3_ n4_; (try clear hb)
    refine hK.out _ _ ⟨(blk_cell BK191.out 0).trans rfl, (blk_cell BK191.out 1).trans rfl, (blk_cell BK185.out 0).trans rfl, (blk_cell BK185.out 1).trans rfl, (blk_cell BK185.out 2).trans rfl, (blk_cell BK185.out 3).trans rfl, (blk_cell BK185.out 4).trans rfl, (blk_cell BK185.out 5).trans rfl, (blk_cell BK185.out 6).trans rfl, (blk_cell BK185.out 7).trans rfl⟩ (fun hHeld => ?_)
    clear hK K
    refine norm_ (a' := ?_) ?_ ?_
    rotate_left
    ·show Act.put _ (some 25) _ = _
     simp only [Act.put, List.setIfInBounds_toArray, List.set_cons_zero, List.set_cons_succ, i64_w, i32_w]
     rfl
    refine pure_ (i := 6) (N := some 26) (v := ?_) (a' := ?_) #[true, true, true, true, true, true, true, true, false, false, false, false, false, false, false, false, false, false] rfl rfl (any_of HT_.out (by kernel_rfl)) (fun _ _ _ h => h) (Or.inl ⟨by rfl, ?_⟩) ?_ ?_
    rotate_left
    ·intro w'
     go_simp; with_reducible rfl
    rotate_left
    ·simp only [Act.put, List.setIfInBounds_toArray, List.set_cons_zero, List.set_cons_succ, i64_w, i32_w]
     rfl
    refine two_ (i := 8) (j := 15) (Ni := some 28) (Nj := some 7) #[true, true, true, true, true, true, true, true, true, false, false, false, false, false, false, false, false, false] #[true, true, true, true, true, true, true, true, false, false, false, false, false, false, false, true, false, false] rfl rfl rfl rfl (two_of HT_.out (by kernel_rfl)) (by decide) (by decide) (fun K hK => ?_) (fun K hK => ?_)
    ·skip
     refine goes_ Tryd.func64 (by kernel_rfl) rfl #[.agg #[.int .i64 a0_0, .int .i64 a0_1, .int .i64 a0_2, .int .i64 a0_3, .int .i64 a0_4, .int .i64 a0_5, .int .i64 a0_6, .int .i64 a0_7]] (by rfl) rfl rfl aA ?_
     with_reducible refine (config_asked_fairSize.calls a0_0 a0_1 a0_2 a0_3 a0_4 a0_5 a0_6 a0_7 t197 _ A5.out).mono ?_
     rintro e w60 ⟨rfl, hb⟩
     refine ⟨_, rfl, ?_⟩; have n0_ := Aside0.mk (blk_below (g := gb185) kA hb); have n1_ := Aside0.mk (blk_below (g := gb190) kA hb); have n2_ := Aside0.mk (blk_below (g := gb191) kA hb); have n3_ := Aside0.mk (blk_below (g := gb195) kA hb); have n4_ := Aside0.mk (below_step bA hb); clear BK185 BK190 BK191 BK195 HB; have BK185 := n0_; have BK190 := n1_; have BK191 := n2_; have BK195 := n3_; have HB := n4_; clear n0_ n1_ n2_ n3_ n4_; (try clear hb)
     refine hK.out _ _ ⟨(blk_cell BK191.out 0).trans rfl, (blk_cell BK191.out 1).trans rfl, (blk_cell BK185.out 0).trans rfl, (blk_cell BK185.out 1).trans rfl, (blk_cell BK185.out 2).trans rfl, (blk_cell BK185.out 3).trans rfl, (blk_cell BK185.out 4).trans rfl, (blk_cell BK185.out 5).trans rfl, (blk_cell BK185.out 6).trans rfl, (blk_cell BK185.out 7).trans rfl⟩ (fun hHeld => ?_)
     clear hK K
     refine norm_ (a' := ?_) ?_ ?_
     rotate_left
     ·show Act.put _ (some 28) _ = _
      simp only [Act.put, List.setIfInBounds_toArray, List.set_cons_zero, List.set_cons_succ, i64_w, i32_w]
      rfl
     refine pure_ (i := 9) (N := some 29) (v := ?_) (a' := ?_) #[true, true, true, true, true, true, true, true, true, true, false, false, false, false, false, false, false, false] rfl rfl (any_of HT_.out (by kernel_rfl)) (fun _ _ _ h => h) (Or.inl ⟨by rfl, ?_⟩) ?_ ?_
     rotate_left
     ·intro w'
      go_simp; with_reducible rfl
     rotate_left
     ·simp only [Act.put, List.setIfInBounds_toArray, List.set_cons_zero, List.set_cons_succ, i64_w, i32_w]
      rfl
     refine pure_ (i := 10) (N := some 30) (v := ?_) (a' := ?_) #[true, true, true, true, true, true, true, true, true, true, true, false, false, false, false, false, false, false] rfl rfl (any_of HT_.out (by kernel_rfl)) (fun _ _ _ h => h) (Or.inl ⟨by rfl, ?_⟩) ?_ ?_
     rotate_left
     ·intro w'
      go_simp; with_reducible rfl
     rotate_left
     ·simp only [Act.put, List.setIfInBounds_toArray, List.set_cons_zero, List.set_cons_succ, i64_w, i32_w]
      rfl
     refine two_ (i := 11) (j := 15) (Ni := some 31) (Nj := some 7) #[true, true, true, true, true, true, true, true, true, true, true, true, false, false, false, false, false, false] #[true, true, true, true, true, true, true, true, true, true, true, false, false, false, false, true, false, false] rfl rfl rfl rfl (two_of HT_.out (by kernel_rfl)) (by decide) (by decide) (fun K hK => ?_) (fun K hK => ?_)
     ·skip
      refine goes_ Tryd.func66 (by kernel_rfl) rfl #[.agg #[.int .u64 t188, .int .u64 t189], .int .u64 (IntKind.u64.wrap (wrap64 ((wrap64 (a0_3 * t196)) + t197)))] (by rfl) rfl rfl aA ?_
      with_reducible refine (wide_Times.calls t188 t189 (IntKind.u64.wrap (wrap64 ((wrap64 (a0_3 * t196)) + t197))) t198 t199 t200 _ A6.out).mono ?_
      rintro e w61 ⟨rfl, hb⟩
      refine ⟨_, rfl, ?_⟩; have n0_ := Aside0.mk (blk_below (g := gb185) kA hb); have n1_ := Aside0.mk (blk_below (g := gb190) kA hb); have n2_ := Aside0.mk (blk_below (g := gb191) kA hb); have n3_ := Aside0.mk (blk_below (g := gb195) kA hb); have n4_ := Aside0.mk (below_step bA hb); clear BK185 BK190 BK191 BK195 HB; have BK185 := n0_; have BK190 := n1_; have BK191 := n2_; have BK195 := n3_; have HB := n4_; clear n0_ n1_ n2_ n3_ n4_; (try clear hb)
      refine hK.out _ _ ⟨(blk_cell BK191.out 0).trans rfl, (blk_cell BK191.out 1).trans rfl, (blk_cell BK185.out 0).trans rfl, (blk_cell BK185.out 1).trans rfl, (blk_cell BK185.out 2).trans rfl, (blk_cell BK185.out 3).trans rfl, (blk_cell BK185.out 4).trans rfl, (blk_cell BK185.out 5).trans rfl, (blk_cell BK185.out 6).trans rfl, (blk_cell BK185.out 7).trans rfl⟩ (fun hHeld => ?_)
      clear hK K
      refine norm_ (a' := ?_) ?_ ?_
      rotate_left
      ·show Act.put _ (some 31) _ = _
       simp only [Act.put, List.setIfInBounds_toArray, List.set_cons_zero, List.set_cons_succ, i64_w, i32_w]
       rfl
      refine pure_ (i := 12) (N := some 19) (v := ?_) (a' := ?_) #[true, true, true, true, true, true, true, true, true, true, true, true, true, false, false, false, false, false] rfl rfl (any_of HT_.out (by kernel_rfl)) (fun _ _ _ h => h) (Or.inl ⟨by rfl, ?_⟩) ?_ ?_
      rotate_left
      ·intro w'
       go_simp; with_reducible rfl
      rotate_left
      ·simp only [Act.put, List.setIfInBounds_toArray, List.set_cons_zero, List.set_cons_succ, i64_w, i32_w]
       rfl
      refine pure_ (i := 13) (N := some 32) (v := ?_) (a' := ?_) #[true, true, true, true, true, true, true, true, true, true, true, true, true, true, false, false, false, false] rfl rfl (any_of HT_.out (by kernel_rfl)) (fun _ _ _ h => h) (Or.inl ⟨by rfl, ?_⟩) ?_ ?_
      rotate_left
      ·intro w'
       go_simp; with_reducible rfl
      rotate_left
      ·simp only [Act.put, List.setIfInBounds_toArray, List.set_cons_zero, List.set_cons_succ, i64_w, i32_w]
       rfl
      refine pure_ (i := 14) (N := some 33) (v := ?_) (a' := ?_) #[true, true, true, true, true, true, true, true, true, true, true, true, true, true, true, false, false, false] rfl rfl (any_of HT_.out (by kernel_rfl)) (fun _ _ _ h => h) (Or.inl ⟨by rfl, ?_⟩) ?_ ?_
      rotate_left
      ·intro w'
       go_simp; with_reducible rfl
      rotate_left
      ·simp only [Act.put, List.setIfInBounds_toArray, List.set_cons_zero, List.set_cons_succ, i64_w, i32_w]
       rfl
      refine one_ (i := 15) (N := some 7) #[true, true, true, true, true, true, true, true, true, true, true, true, true, true, true, true, false, false] rfl rfl (one_of HT_.out (by kernel_rfl)) (by decide) (fun K hK => ?_)
      refine box_step ?hg (N := 7) ?hd (cs := #[.int .u64 0, .int .u64 0]) (t := 76) ?hr ?_; (case hd => rfl); (case hg => rfl); (case hr => first | (go_simp; done) | (go_simp; rfl))
      intro gb201 hg w62 hbox hb
      have n0_ := Aside0.mk (blk_below (g := gb185) kA hb); have n1_ := Aside0.mk (blk_below (g := gb190) kA hb); have n2_ := Aside0.mk (blk_below (g := gb191) kA hb); have n3_ := Aside0.mk (blk_below (g := gb195) kA hb); have n4_ := Aside0.mk (below_step bA hb); have n5_ := Aside0.mk (hbox); have n6_ := Aside0.mk (gwA hg bA); have n7_ := Aside0.mk (gwA hg bA); have n8_ := Aside0.mk (neA (g := gb185) hg kA); have n9_ := Aside0.mk (neB (g := gb185) hg kA); have n10_ := Aside0.mk (neA (g := gb190) hg kA); have n11_ := Aside0.mk (neB (g := gb190) hg kA); have n12_ := Aside0.mk (neA (g := gb191) hg kA); have n13_ := Aside0.mk (neB (g := gb191) hg kA); have n14_ := Aside0.mk (neA (g := gb195) hg kA); have n15_ := Aside0.mk (neB (g := gb195) hg kA); clear BK185 BK190 BK191 BK195 HB; have BK185 := n0_; have BK190 := n1_; have BK191 := n2_; have BK195 := n3_; have HB := n4_; have BK201 := n5_; have GW201 := n6_; have GE201 := n7_; have NB185_201 := n8_; have NB201_185 := n9_; have NB190_201 := n10_; have NB201_190 := n11_; have NB191_201 := n12_; have NB201_191 := n13_; have NB195_201 := n14_; have NB201_195 := n15_; clear n0_ n1_ n2_ n3_ n4_ n5_ n6_ n7_ n8_ n9_ n10_ n11_ n12_ n13_ n14_ n15_ hb hbox hg
      refine hK.out _ _ ⟨(blk_cell BK191.out 0).trans rfl, (blk_cell BK191.out 1).trans rfl, (blk_cell BK185.out 0).trans rfl, (blk_cell BK185.out 1).trans rfl, (blk_cell BK185.out 2).trans rfl, (blk_cell BK185.out 3).trans rfl, (blk_cell BK185.out 4).trans rfl, (blk_cell BK185.out 5).trans rfl, (blk_cell BK185.out 6).trans rfl, (blk_cell BK185.out 7).trans rfl⟩ (fun hHeld => ?_)
      clear hK K
      refine norm_ (a' := ?_) ?_ ?_
      rotate_left
      ·show Act.put _ (some 7) _ = _
       simp only [Act.put, List.setIfInBounds_toArray, List.set_cons_zero, List.set_cons_succ, i64_w, i32_w]
       rfl
      exact norm_ (by simp only [putAll, Act.put, List.setIfInBounds_toArray, List.set_cons_zero, List.set_cons_succ]) (hCont (gb201) _ ⟨hHeld, kA, kA, kA, kA, kA, GW201.out, GE201.out, NB185_201.out, NB201_185.out, NB190_201.out, NB201_190.out, NB191_201.out, NB201_191.out, NB195_201.out, NB201_195.out, bA⟩)
     ·skip
      refine box_step ?hg (N := 7) ?hd (cs := #[.int .u64 0, .int .u64 0]) (t := 76) ?hr ?_; (case hd => rfl); (case hg => rfl); (case hr => first | (go_simp; done) | (go_simp; rfl))
      intro gb201 hg w61 hbox hb
      have n0_ := Aside0.mk (blk_below (g := gb185) kA hb); have n1_ := Aside0.mk (blk_below (g := gb190) kA hb); have n2_ := Aside0.mk (blk_below (g := gb191) kA hb); have n3_ := Aside0.mk (blk_below (g := gb195) kA hb); have n4_ := Aside0.mk (below_step bA hb); have n5_ := Aside0.mk (hbox); have n6_ := Aside0.mk (gwA hg bA); have n7_ := Aside0.mk (gwA hg bA); have n8_ := Aside0.mk (neA (g := gb185) hg kA); have n9_ := Aside0.mk (neB (g := gb185) hg kA); have n10_ := Aside0.mk (neA (g := gb190) hg kA); have n11_ := Aside0.mk (neB (g := gb190) hg kA); have n12_ := Aside0.mk (neA (g := gb191) hg kA); have n13_ := Aside0.mk (neB (g := gb191) hg kA); have n14_ := Aside0.mk (neA (g := gb195) hg kA); have n15_ := Aside0.mk (neB (g := gb195) hg kA); clear BK185 BK190 BK191 BK195 HB; have BK185 := n0_; have BK190 := n1_; have BK191 := n2_; have BK195 := n3_; have HB := n4_; have BK201 := n5_; have GW201 := n6_; have GE201 := n7_; have NB185_201 := n8_; have NB201_185 := n9_; have NB190_201 := n10_; have NB201_190 := n11_; have NB191_201 := n12_; have NB201_191 := n13_; have NB195_201 := n14_; have NB201_195 := n15_; clear n0_ n1_ n2_ n3_ n4_ n5_ n6_ n7_ n8_ n9_ n10_ n11_ n12_ n13_ n14_ n15_ hb hbox hg
      refine hK.out _ _ ⟨(blk_cell BK191.out 0).trans rfl, (blk_cell BK191.out 1).trans rfl, (blk_cell BK185.out 0).trans rfl, (blk_cell BK185.out 1).trans rfl, (blk_cell BK185.out 2).trans rfl, (blk_cell BK185.out 3).trans rfl, (blk_cell BK185.out 4).trans rfl, (blk_cell BK185.out 5).trans rfl, (blk_cell BK185.out 6).trans rfl, (blk_cell BK185.out 7).trans rfl⟩ (fun hHeld => ?_)
      clear hK K
      refine norm_ (a' := ?_) ?_ ?_
      rotate_left
      ·show Act.put _ (some 7) _ = _
       simp only [Act.put, List.setIfInBounds_toArray, List.set_cons_zero, List.set_cons_succ, i64_w, i32_w]
       rfl
      refine one_ (i := 11) (N := some 31) #[true, true, true, true, true, true, true, true, true, true, true, true, false, false, false, true, false, false] rfl rfl (one_of HT_.out (by kernel_rfl)) (by decide) (fun K hK => ?_)
      refine goes_ Tryd.func66 (by kernel_rfl) rfl #[.agg #[.int .u64 t188, .int .u64 t189], .int .u64 (IntKind.u64.wrap (wrap64 ((wrap64 (a0_3 * t196)) + t197)))] (by rfl) rfl rfl aA ?_
      with_reducible refine (wide_Times.calls t188 t189 (IntKind.u64.wrap (wrap64 ((wrap64 (a0_3 * t196)) + t197))) t198 t199 t200 _ A6.out).mono ?_
      rintro e w62 ⟨rfl, hb⟩
      refine ⟨_, rfl, ?_⟩; have n0_ := Aside0.mk (blk_below (g := gb185) kA hb); have n1_ := Aside0.mk (blk_below (g := gb190) kA hb); have n2_ := Aside0.mk (blk_below (g := gb191) kA hb); have n3_ := Aside0.mk (blk_below (g := gb195) kA hb); have n4_ := Aside0.mk (blk_below (g := gb201) kA hb); have n5_ := Aside0.mk (below_step bA hb); clear BK185 BK190 BK191 BK195 BK201 HB; have BK185 := n0_; have BK190 := n1_; have BK191 := n2_; have BK195 := n3_; have BK201 := n4_; have HB := n5_; clear n0_ n1_ n2_ n3_ n4_ n5_; (try clear hb)
      refine hK.out _ _ ⟨(blk_cell BK191.out 0).trans rfl, (blk_cell BK191.out 1).trans rfl, (blk_cell BK185.out 0).trans rfl, (blk_cell BK185.out 1).trans rfl, (blk_cell BK185.out 2).trans rfl, (blk_cell BK185.out 3).trans rfl, (blk_cell BK185.out 4).trans rfl, (blk_cell BK185.out 5).trans rfl, (blk_cell BK185.out 6).trans rfl, (blk_cell BK185.out 7).trans rfl⟩ (fun hHeld => ?_)
      clear hK K
      refine norm_ (a' := ?_) ?_ ?_
      rotate_left
      ·show Act.put _ (some 31) _ = _
       simp only [Act.put, List.setIfInBounds_toArray, List.set_cons_zero, List.set_cons_succ, i64_w, i32_w]
       rfl
      refine pure_ (i := 12) (N := some 19) (v := ?_) (a' := ?_) #[true, true, true, true, true, true, true, true, true, true, true, true, true, false, false, true, false, false] rfl rfl (any_of HT_.out (by kernel_rfl)) (fun _ _ _ h => h) (Or.inl ⟨by rfl, ?_⟩) ?_ ?_
      rotate_left
      ·intro w'
       go_simp; with_reducible rfl
      rotate_left
      ·simp only [Act.put, List.setIfInBounds_toArray, List.set_cons_zero, List.set_cons_succ, i64_w, i32_w]
       rfl
      refine pure_ (i := 13) (N := some 32) (v := ?_) (a' := ?_) #[true, true, true, true, true, true, true, true, true, true, true, true, true, true, false, true, false, false] rfl rfl (any_of HT_.out (by kernel_rfl)) (fun _ _ _ h => h) (Or.inl ⟨by rfl, ?_⟩) ?_ ?_
      rotate_left
      ·intro w'
       go_simp; with_reducible rfl
      rotate_left
      ·simp only [Act.put, List.setIfInBounds_toArray, List.set_cons_zero, List.set_cons_succ, i64_w, i32_w]
       rfl
      refine pure_ (i := 14) (N := some 33) (v := ?_) (a' := ?_) #[true, true, true, true, true, true, true, true, true, true, true, true, true, true, true, true, false, false] rfl rfl (any_of HT_.out (by kernel_rfl)) (fun _ _ _ h => h) (Or.inl ⟨by rfl, ?_⟩) ?_ ?_
      rotate_left
      ·intro w'
       go_simp; with_reducible rfl
      rotate_left
      ·simp only [Act.put, List.setIfInBounds_toArray, List.set_cons_zero, List.set_cons_succ, i64_w, i32_w]
       rfl
      exact norm_ (by simp only [putAll, Act.put, List.setIfInBounds_toArray, List.set_cons_zero, List.set_cons_succ]) (hCont (gb201) _ ⟨hHeld, kA, kA, kA, kA, kA, GW201.out, GE201.out, NB185_201.out, NB201_185.out, NB190_201.out, NB201_190.out, NB191_201.out, NB201_191.out, NB195_201.out, NB201_195.out, bA⟩)
    ·skip
     refine box_step ?hg (N := 7) ?hd (cs := #[.int .u64 0, .int .u64 0]) (t := 76) ?hr ?_; (case hd => rfl); (case hg => rfl); (case hr => first | (go_simp; done) | (go_simp; rfl))
     intro gb201 hg w60 hbox hb
     have n0_ := Aside0.mk (blk_below (g := gb185) kA hb); have n1_ := Aside0.mk (blk_below (g := gb190) kA hb); have n2_ := Aside0.mk (blk_below (g := gb191) kA hb); have n3_ := Aside0.mk (blk_below (g := gb195) kA hb); have n4_ := Aside0.mk (below_step bA hb); have n5_ := Aside0.mk (hbox); have n6_ := Aside0.mk (gwA hg bA); have n7_ := Aside0.mk (gwA hg bA); have n8_ := Aside0.mk (neA (g := gb185) hg kA); have n9_ := Aside0.mk (neB (g := gb185) hg kA); have n10_ := Aside0.mk (neA (g := gb190) hg kA); have n11_ := Aside0.mk (neB (g := gb190) hg kA); have n12_ := Aside0.mk (neA (g := gb191) hg kA); have n13_ := Aside0.mk (neB (g := gb191) hg kA); have n14_ := Aside0.mk (neA (g := gb195) hg kA); have n15_ := Aside0.mk (neB (g := gb195) hg kA); clear BK185 BK190 BK191 BK195 HB; have BK185 := n0_; have BK190 := n1_; have BK191 := n2_; have BK195 := n3_; have HB := n4_; have BK201 := n5_; have GW201 := n6_; have GE201 := n7_; have NB185_201 := n8_; have NB201_185 := n9_; have NB190_201 := n10_; have NB201_190 := n11_; have NB191_201 := n12_; have NB201_191 := n13_; have NB195_201 := n14_; have NB201_195 := n15_; clear n0_ n1_ n2_ n3_ n4_ n5_ n6_ n7_ n8_ n9_ n10_ n11_ n12_ n13_ n14_ n15_ hb hbox hg
     refine hK.out _ _ ⟨(blk_cell BK191.out 0).trans rfl, (blk_cell BK191.out 1).trans rfl, (blk_cell BK185.out 0).trans rfl, (blk_cell BK185.out 1).trans rfl, (blk_cell BK185.out 2).trans rfl, (blk_cell BK185.out 3).trans rfl, (blk_cell BK185.out 4).trans rfl, (blk_cell BK185.out 5).trans rfl, (blk_cell BK185.out 6).trans rfl, (blk_cell BK185.out 7).trans rfl⟩ (fun hHeld => ?_)
     clear hK K
     refine norm_ (a' := ?_) ?_ ?_
     rotate_left
     ·show Act.put _ (some 7) _ = _
      simp only [Act.put, List.setIfInBounds_toArray, List.set_cons_zero, List.set_cons_succ, i64_w, i32_w]
      rfl
     refine one_ (i := 8) (N := some 28) #[true, true, true, true, true, true, true, true, true, false, false, false, false, false, false, true, false, false] rfl rfl (one_of HT_.out (by kernel_rfl)) (by decide) (fun K hK => ?_)
     refine goes_ Tryd.func64 (by kernel_rfl) rfl #[.agg #[.int .i64 a0_0, .int .i64 a0_1, .int .i64 a0_2, .int .i64 a0_3, .int .i64 a0_4, .int .i64 a0_5, .int .i64 a0_6, .int .i64 a0_7]] (by rfl) rfl rfl aA ?_
     with_reducible refine (config_asked_fairSize.calls a0_0 a0_1 a0_2 a0_3 a0_4 a0_5 a0_6 a0_7 t197 _ A5.out).mono ?_
     rintro e w61 ⟨rfl, hb⟩
     refine ⟨_, rfl, ?_⟩; have n0_ := Aside0.mk (blk_below (g := gb185) kA hb); have n1_ := Aside0.mk (blk_below (g := gb190) kA hb); have n2_ := Aside0.mk (blk_below (g := gb191) kA hb); have n3_ := Aside0.mk (blk_below (g := gb195) kA hb); have n4_ := Aside0.mk (blk_below (g := gb201) kA hb); have n5_ := Aside0.mk (below_step bA hb); clear BK185 BK190 BK191 BK195 BK201 HB; have BK185 := n0_; have BK190 := n1_; have BK191 := n2_; have BK195 := n3_; have BK201 := n4_; have HB := n5_; clear n0_ n1_ n2_ n3_ n4_ n5_; (try clear hb)
     refine hK.out _ _ ⟨(blk_cell BK191.out 0).trans rfl, (blk_cell BK191.out 1).trans rfl, (blk_cell BK185.out 0).trans rfl, (blk_cell BK185.out 1).trans rfl, (blk_cell BK185.out 2).trans rfl, (blk_cell BK185.out 3).trans rfl, (blk_cell BK185.out 4).trans rfl, (blk_cell BK185.out 5).trans rfl, (blk_cell BK185.out 6).trans rfl, (blk_cell BK185.out 7).trans rfl⟩ (fun hHeld => ?_)
     clear hK K
     refine norm_ (a' := ?_) ?_ ?_
     rotate_left
     ·show Act.put _ (some 28) _ = _
      simp only [Act.put, List.setIfInBounds_toArray, List.set_cons_zero, List.set_cons_succ, i64_w, i32_w]
      rfl
     refine pure_ (i := 9) (N := some 29) (v := ?_) (a' := ?_) #[true, true, true, true, true, true, true, true, true, true, false, false, false, false, false, true, false, false] rfl rfl (any_of HT_.out (by kernel_rfl)) (fun _ _ _ h => h) (Or.inl ⟨by rfl, ?_⟩) ?_ ?_
     rotate_left
     ·intro w'
      go_simp; with_reducible rfl
     rotate_left
     ·simp only [Act.put, List.setIfInBounds_toArray, List.set_cons_zero, List.set_cons_succ, i64_w, i32_w]
      rfl
     refine pure_ (i := 10) (N := some 30) (v := ?_) (a' := ?_) #[true, true, true, true, true, true, true, true, true, true, true, false, false, false, false, true, false, false] rfl rfl (any_of HT_.out (by kernel_rfl)) (fun _ _ _ h => h) (Or.inl ⟨by rfl, ?_⟩) ?_ ?_
     rotate_left
     ·intro w'
      go_simp; with_reducible rfl
     rotate_left
     ·simp only [Act.put, List.setIfInBounds_toArray, List.set_cons_zero, List.set_cons_succ, i64_w, i32_w]
      rfl
     refine one_ (i := 11) (N := some 31) #[true, true, true, true, true, true, true, true, true, true, true, true, false, false, false, true, false, false] rfl rfl (one_of HT_.out (by kernel_rfl)) (by decide) (fun K hK => ?_)
     refine goes_ Tryd.func66 (by kernel_rfl) rfl #[.agg #[.int .u64 t188, .int .u64 t189], .int .u64 (IntKind.u64.wrap (wrap64 ((wrap64 (a0_3 * t196)) + t197)))] (by rfl) rfl rfl aA ?_
     with_reducible refine (wide_Times.calls t188 t189 (IntKind.u64.wrap (wrap64 ((wrap64 (a0_3 * t196)) + t197))) t198 t199 t200 _ A6.out).mono ?_
     rintro e w62 ⟨rfl, hb⟩
     refine ⟨_, rfl, ?_⟩; have n0_ := Aside0.mk (blk_below (g := gb185) kA hb); have n1_ := Aside0.mk (blk_below (g := gb190) kA hb); have n2_ := Aside0.mk (blk_below (g := gb191) kA hb); have n3_ := Aside0.mk (blk_below (g := gb195) kA hb); have n4_ := Aside0.mk (blk_below (g := gb201) kA hb); have n5_ := Aside0.mk (below_step bA hb); clear BK185 BK190 BK191 BK195 BK201 HB; have BK185 := n0_; have BK190 := n1_; have BK191 := n2_; have BK195 := n3_; have BK201 := n4_; have HB := n5_; clear n0_ n1_ n2_ n3_ n4_ n5_; (try clear hb)
     refine hK.out _ _ ⟨(blk_cell BK191.out 0).trans rfl, (blk_cell BK191.out 1).trans rfl, (blk_cell BK185.out 0).trans rfl, (blk_cell BK185.out 1).trans rfl, (blk_cell BK185.out 2).trans rfl, (blk_cell BK185.out 3).trans rfl, (blk_cell BK185.out 4).trans rfl, (blk_cell BK185.out 5).trans rfl, (blk_cell BK185.out 6).trans rfl, (blk_cell BK185.out 7).trans rfl⟩ (fun hHeld => ?_)
     clear hK K
     refine norm_ (a' := ?_) ?_ ?_
     rotate_left
     ·show Act.put _ (some 31) _ = _
      simp only [Act.put, List.setIfInBounds_toArray, List.set_cons_zero, List.set_cons_succ, i64_w, i32_w]
      rfl
     refine pure_ (i := 12) (N := some 19) (v := ?_) (a' := ?_) #[true, true, true, true, true, true, true, true, true, true, true, true, true, false, false, true, false, false] rfl rfl (any_of HT_.out (by kernel_rfl)) (fun _ _ _ h => h) (Or.inl ⟨by rfl, ?_⟩) ?_ ?_
     rotate_left
     ·intro w'
      go_simp; with_reducible rfl
     rotate_left
     ·simp only [Act.put, List.setIfInBounds_toArray, List.set_cons_zero, List.set_cons_succ, i64_w, i32_w]
      rfl
     refine pure_ (i := 13) (N := some 32) (v := ?_) (a' := ?_) #[true, true, true, true, true, true, true, true, true, true, true, true, true, true, false, true, false, false] rfl rfl (any_of HT_.out (by kernel_rfl)) (fun _ _ _ h => h) (Or.inl ⟨by rfl, ?_⟩) ?_ ?_
     rotate_left
     ·intro w'
      go_simp; with_reducible rfl
     rotate_left
     ·simp only [Act.put, List.setIfInBounds_toArray, List.set_cons_zero, List.set_cons_succ, i64_w, i32_w]
      rfl
     refine pure_ (i := 14) (N := some 33) (v := ?_) (a' := ?_) #[true, true, true, true, true, true, true, true, true, true, true, true, true, true, true, true, false, false] rfl rfl (any_of HT_.out (by kernel_rfl)) (fun _ _ _ h => h) (Or.inl ⟨by rfl, ?_⟩) ?_ ?_
     rotate_left
     ·intro w'
      go_simp; with_reducible rfl
     rotate_left
     ·simp only [Act.put, List.setIfInBounds_toArray, List.set_cons_zero, List.set_cons_succ, i64_w, i32_w]
      rfl
     exact norm_ (by simp only [putAll, Act.put, List.setIfInBounds_toArray, List.set_cons_zero, List.set_cons_succ]) (hCont (gb201) _ ⟨hHeld, kA, kA, kA, kA, kA, GW201.out, GE201.out, NB185_201.out, NB201_185.out, NB190_201.out, NB201_190.out, NB191_201.out, NB201_191.out, NB195_201.out, NB201_195.out, bA⟩)
   ·skip
    refine box_step ?hg (N := 7) ?hd (cs := #[.int .u64 0, .int .u64 0]) (t := 76) ?hr ?_; (case hd => rfl); (case hg => rfl); (case hr => first | (go_simp; done) | (go_simp; rfl))
    intro gb201 hg w59 hbox hb
    have n0_ := Aside0.mk (blk_below (g := gb185) kA hb); have n1_ := Aside0.mk (blk_below (g := gb190) kA hb); have n2_ := Aside0.mk (blk_below (g := gb191) kA hb); have n3_ := Aside0.mk (blk_below (g := gb195) kA hb); have n4_ := Aside0.mk (below_step bA hb); have n5_ := Aside0.mk (hbox); have n6_ := Aside0.mk (gwA hg bA); have n7_ := Aside0.mk (gwA hg bA); have n8_ := Aside0.mk (neA (g := gb185) hg kA); have n9_ := Aside0.mk (neB (g := gb185) hg kA); have n10_ := Aside0.mk (neA (g := gb190) hg kA); have n11_ := Aside0.mk (neB (g := gb190) hg kA); have n12_ := Aside0.mk (neA (g := gb191) hg kA); have n13_ := Aside0.mk (neB (g := gb191) hg kA); have n14_ := Aside0.mk (neA (g := gb195) hg kA); have n15_ := Aside0.mk (neB (g := gb195) hg kA); clear BK185 BK190 BK191 BK195 HB; have BK185 := n0_; have BK190 := n1_; have BK191 := n2_; have BK195 := n3_; have HB := n4_; have BK201 := n5_; have GW201 := n6_; have GE201 := n7_; have NB185_201 := n8_; have NB201_185 := n9_; have NB190_201 := n10_; have NB201_190 := n11_; have NB191_201 := n12_; have NB201_191 := n13_; have NB195_201 := n14_; have NB201_195 := n15_; clear n0_ n1_ n2_ n3_ n4_ n5_ n6_ n7_ n8_ n9_ n10_ n11_ n12_ n13_ n14_ n15_ hb hbox hg
    refine hK.out _ _ ⟨(blk_cell BK191.out 0).trans rfl, (blk_cell BK191.out 1).trans rfl, (blk_cell BK185.out 0).trans rfl, (blk_cell BK185.out 1).trans rfl, (blk_cell BK185.out 2).trans rfl, (blk_cell BK185.out 3).trans rfl, (blk_cell BK185.out 4).trans rfl, (blk_cell BK185.out 5).trans rfl, (blk_cell BK185.out 6).trans rfl, (blk_cell BK185.out 7).trans rfl⟩ (fun hHeld => ?_)
    clear hK K
    refine norm_ (a' := ?_) ?_ ?_
    rotate_left
    ·show Act.put _ (some 7) _ = _
     simp only [Act.put, List.setIfInBounds_toArray, List.set_cons_zero, List.set_cons_succ, i64_w, i32_w]
     rfl
    refine one_ (i := 5) (N := some 25) #[true, true, true, true, true, true, false, true, false, false, false, false, false, false, false, true, false, false] rfl rfl (one_of HT_.out (by kernel_rfl)) (by decide) (fun K hK => ?_)
    refine goes_ Tryd.func67 (by kernel_rfl) rfl #[.agg #[.int .i64 a0_0, .int .i64 a0_1, .int .i64 a0_2, .int .i64 a0_3, .int .i64 a0_4, .int .i64 a0_5, .int .i64 a0_6, .int .i64 a0_7]] (by rfl) rfl rfl aA ?_
    with_reducible refine (config_asked_bound.calls a0_0 a0_1 a0_2 a0_3 a0_4 a0_5 a0_6 a0_7 t196 _ A4.out).mono ?_
    rintro e w60 ⟨rfl, hb⟩
    refine ⟨_, rfl, ?_⟩; have n0_ := Aside0.mk (blk_below (g := gb185) kA hb); have n1_ := Aside0.mk (blk_below (g := gb190) kA hb); have n2_ := Aside0.mk (blk_below (g := gb191) kA hb); have n3_ := Aside0.mk (blk_below (g := gb195) kA hb); have n4_ := Aside0.mk (blk_below (g := gb201) kA hb); have n5_ := Aside0.mk (below_step bA hb); clear BK185 BK190 BK191 BK195 BK201 HB; have BK185 := n0_; have BK190 := n1_; have BK191 := n2_; have BK195 := n3_; have BK201 := n4_; have HB := n5_; clear n0_ n1_ n2_ n3_ n4_ n5_; (try clear hb)
    refine hK.out _ _ ⟨(blk_cell BK191.out 0).trans rfl, (blk_cell BK191.out 1).trans rfl, (blk_cell BK185.out 0).trans rfl, (blk_cell BK185.out 1).trans rfl, (blk_cell BK185.out 2).trans rfl, (blk_cell BK185.out 3).trans rfl, (blk_cell BK185.out 4).trans rfl, (blk_cell BK185.out 5).trans rfl, (blk_cell BK185.out 6).trans rfl, (blk_cell BK185.out 7).trans rfl⟩ (fun hHeld => ?_)
    clear hK K
    refine norm_ (a' := ?_) ?_ ?_
    rotate_left
    ·show Act.put _ (some 25) _ = _
     simp only [Act.put, List.setIfInBounds_toArray, List.set_cons_zero, List.set_cons_succ, i64_w, i32_w]
     rfl
    refine pure_ (i := 6) (N := some 26) (v := ?_) (a' := ?_) #[true, true, true, true, true, true, true, true, false, false, false, false, false, false, false, true, false, false] rfl rfl (any_of HT_.out (by kernel_rfl)) (fun _ _ _ h => h) (Or.inl ⟨by rfl, ?_⟩) ?_ ?_
    rotate_left
    ·intro w'
     go_simp; with_reducible rfl
    rotate_left
    ·simp only [Act.put, List.setIfInBounds_toArray, List.set_cons_zero, List.set_cons_succ, i64_w, i32_w]
     rfl
    refine one_ (i := 8) (N := some 28) #[true, true, true, true, true, true, true, true, true, false, false, false, false, false, false, true, false, false] rfl rfl (one_of HT_.out (by kernel_rfl)) (by decide) (fun K hK => ?_)
    refine goes_ Tryd.func64 (by kernel_rfl) rfl #[.agg #[.int .i64 a0_0, .int .i64 a0_1, .int .i64 a0_2, .int .i64 a0_3, .int .i64 a0_4, .int .i64 a0_5, .int .i64 a0_6, .int .i64 a0_7]] (by rfl) rfl rfl aA ?_
    with_reducible refine (config_asked_fairSize.calls a0_0 a0_1 a0_2 a0_3 a0_4 a0_5 a0_6 a0_7 t197 _ A5.out).mono ?_
    rintro e w61 ⟨rfl, hb⟩
    refine ⟨_, rfl, ?_⟩; have n0_ := Aside0.mk (blk_below (g := gb185) kA hb); have n1_ := Aside0.mk (blk_below (g := gb190) kA hb); have n2_ := Aside0.mk (blk_below (g := gb191) kA hb); have n3_ := Aside0.mk (blk_below (g := gb195) kA hb); have n4_ := Aside0.mk (blk_below (g := gb201) kA hb); have n5_ := Aside0.mk (below_step bA hb); clear BK185 BK190 BK191 BK195 BK201 HB; have BK185 := n0_; have BK190 := n1_; have BK191 := n2_; have BK195 := n3_; have BK201 := n4_; have HB := n5_; clear n0_ n1_ n2_ n3_ n4_ n5_; (try clear hb)
    refine hK.out _ _ ⟨(blk_cell BK191.out 0).trans rfl, (blk_cell BK191.out 1).trans rfl, (blk_cell BK185.out 0).trans rfl, (blk_cell BK185.out 1).trans rfl, (blk_cell BK185.out 2).trans rfl, (blk_cell BK185.out 3).trans rfl, (blk_cell BK185.out 4).trans rfl, (blk_cell BK185.out 5).trans rfl, (blk_cell BK185.out 6).trans rfl, (blk_cell BK185.out 7).trans rfl⟩ (fun hHeld => ?_)
    clear hK K
    refine norm_ (a' := ?_) ?_ ?_
    rotate_left
    ·show Act.put _ (some 28) _ = _
     simp only [Act.put, List.setIfInBounds_toArray, List.set_cons_zero, List.set_cons_succ, i64_w, i32_w]
     rfl
    refine pure_ (i := 9) (N := some 29) (v := ?_) (a' := ?_) #[true, true, true, true, true, true, true, true, true, true, false, false, false, false, false, true, false, false] rfl rfl (any_of HT_.out (by kernel_rfl)) (fun _ _ _ h => h) (Or.inl ⟨by rfl, ?_⟩) ?_ ?_
    rotate_left
    ·intro w'
     go_simp; with_reducible rfl
    rotate_left
    ·simp only [Act.put, List.setIfInBounds_toArray, List.set_cons_zero, List.set_cons_succ, i64_w, i32_w]
     rfl
    refine pure_ (i := 10) (N := some 30) (v := ?_) (a' := ?_) #[true, true, true, true, true, true, true, true, true, true, true, false, false, false, false, true, false, false] rfl rfl (any_of HT_.out (by kernel_rfl)) (fun _ _ _ h => h) (Or.inl ⟨by rfl, ?_⟩) ?_ ?_
    rotate_left
    ·intro w'
     go_simp; with_reducible rfl
    rotate_left
    ·simp only [Act.put, List.setIfInBounds_toArray, List.set_cons_zero, List.set_cons_succ, i64_w, i32_w]
     rfl
    refine one_ (i := 11) (N := some 31) #[true, true, true, true, true, true, true, true, true, true, true, true, false, false, false, true, false, false] rfl rfl (one_of HT_.out (by kernel_rfl)) (by decide) (fun K hK => ?_)
    refine goes_ Tryd.func66 (by kernel_rfl) rfl #[.agg #[.int .u64 t188, .int .u64 t189], .int .u64 (IntKind.u64.wrap (wrap64 ((wrap64 (a0_3 * t196)) + t197)))] (by rfl) rfl rfl aA ?_
    with_reducible refine (wide_Times.calls t188 t189 (IntKind.u64.wrap (wrap64 ((wrap64 (a0_3 * t196)) + t197))) t198 t199 t200 _ A6.out).mono ?_
    rintro e w62 ⟨rfl, hb⟩
    refine ⟨_, rfl, ?_⟩; have n0_ := Aside0.mk (blk_below (g := gb185) kA hb); have n1_ := Aside0.mk (blk_below (g := gb190) kA hb); have n2_ := Aside0.mk (blk_below (g := gb191) kA hb); have n3_ := Aside0.mk (blk_below (g := gb195) kA hb); have n4_ := Aside0.mk (blk_below (g := gb201) kA hb); have n5_ := Aside0.mk (below_step bA hb); clear BK185 BK190 BK191 BK195 BK201 HB; have BK185 := n0_; have BK190 := n1_; have BK191 := n2_; have BK195 := n3_; have BK201 := n4_; have HB := n5_; clear n0_ n1_ n2_ n3_ n4_ n5_; (try clear hb)
    refine hK.out _ _ ⟨(blk_cell BK191.out 0).trans rfl, (blk_cell BK191.out 1).trans rfl, (blk_cell BK185.out 0).trans rfl, (blk_cell BK185.out 1).trans rfl, (blk_cell BK185.out 2).trans rfl, (blk_cell BK185.out 3).trans rfl, (blk_cell BK185.out 4).trans rfl, (blk_cell BK185.out 5).trans rfl, (blk_cell BK185.out 6).trans rfl, (blk_cell BK185.out 7).trans rfl⟩ (fun hHeld => ?_)
    clear hK K
    refine norm_ (a' := ?_) ?_ ?_
    rotate_left
    ·show Act.put _ (some 31) _ = _
     simp only [Act.put, List.setIfInBounds_toArray, List.set_cons_zero, List.set_cons_succ, i64_w, i32_w]
     rfl
    refine pure_ (i := 12) (N := some 19) (v := ?_) (a' := ?_) #[true, true, true, true, true, true, true, true, true, true, true, true, true, false, false, true, false, false] rfl rfl (any_of HT_.out (by kernel_rfl)) (fun _ _ _ h => h) (Or.inl ⟨by rfl, ?_⟩) ?_ ?_
    rotate_left
    ·intro w'
     go_simp; with_reducible rfl
    rotate_left
    ·simp only [Act.put, List.setIfInBounds_toArray, List.set_cons_zero, List.set_cons_succ, i64_w, i32_w]
     rfl
    refine pure_ (i := 13) (N := some 32) (v := ?_) (a' := ?_) #[true, true, true, true, true, true, true, true, true, true, true, true, true, true, false, true, false, false] rfl rfl (any_of HT_.out (by kernel_rfl)) (fun _ _ _ h => h) (Or.inl ⟨by rfl, ?_⟩) ?_ ?_
    rotate_left
    ·intro w'
     go_simp; with_reducible rfl
    rotate_left
    ·simp only [Act.put, List.setIfInBounds_toArray, List.set_cons_zero, List.set_cons_succ, i64_w, i32_w]
     rfl
    refine pure_ (i := 14) (N := some 33) (v := ?_) (a' := ?_) #[true, true, true, true, true, true, true, true, true, true, true, true, true, true, true, true, false, false] rfl rfl (any_of HT_.out (by kernel_rfl)) (fun _ _ _ h => h) (Or.inl ⟨by rfl, ?_⟩) ?_ ?_
    rotate_left
    ·intro w'
     go_simp; with_reducible rfl
    rotate_left
    ·simp only [Act.put, List.setIfInBounds_toArray, List.set_cons_zero, List.set_cons_succ, i64_w, i32_w]
     rfl
    exact norm_ (by simp only [putAll, Act.put, List.setIfInBounds_toArray, List.set_cons_zero, List.set_cons_succ]) (hCont (gb201) _ ⟨hHeld, kA, kA, kA, kA, kA, GW201.out, GE201.out, NB185_201.out, NB201_185.out, NB190_201.out, NB201_190.out, NB191_201.out, NB201_191.out, NB195_201.out, NB201_195.out, bA⟩)
  rintro gb201 w63 ⟨hS_, h0_, h1_, h2_, h3_, h4_, h5_, h6_, h7_, h8_, h9_, h10_, h11_, h12_, h13_, h14_, h15_⟩
  have n0_ : Aside0 (w63.heap[gb185]? = some (.cells #[.int .i64 a0_0, .int .i64 a0_1, .int .i64 a0_2, .int .i64 a0_3, .int .i64 a0_4, .int .i64 a0_5, .int .i64 a0_6, .int .i64 a0_7] 69 (0, 0))) := ⟨h0_⟩
  have n1_ : Aside0 (w63.heap[gb190]? = some (.cells #[.int .u64 t186, .int .u64 t187] 76 (0, 0))) := ⟨h1_⟩
  have n2_ : Aside0 (w63.heap[gb191]? = some (.cells #[.int .u64 t188, .int .u64 t189] 76 (0, 0))) := ⟨h2_⟩
  have n3_ : Aside0 (w63.heap[gb195]? = some (.cells #[.int .u64 t192, .int .u64 t193] 76 (0, 0))) := ⟨h3_⟩
  have n4_ : Aside0 (w63.heap[gb201]? = some (.cells #[.int .u64 0, .int .u64 0] 76 (0, 0))) := ⟨h4_⟩
  have n5_ : Aside0 (w.heap.size ≤ gb201) := ⟨h5_⟩
  have n6_ : Aside0 (w.heap.size ≤ gb201) := ⟨h6_⟩
  have n7_ : Aside0 (gb185 ≠ gb201) := ⟨h7_⟩
  have n8_ : Aside0 (gb201 ≠ gb185) := ⟨h8_⟩
  have n9_ : Aside0 (gb190 ≠ gb201) := ⟨h9_⟩
  have n10_ : Aside0 (gb201 ≠ gb190) := ⟨h10_⟩
  have n11_ : Aside0 (gb191 ≠ gb201) := ⟨h11_⟩
  have n12_ : Aside0 (gb201 ≠ gb191) := ⟨h12_⟩
  have n13_ : Aside0 (gb195 ≠ gb201) := ⟨h13_⟩
  have n14_ : Aside0 (gb201 ≠ gb195) := ⟨h14_⟩
  have n15_ : Aside0 (Below w.heap.size w w63) := ⟨h15_⟩
  clear BK185 BK190 BK191 BK195 HB h0_ h1_ h2_ h3_ h4_ h5_ h6_ h7_ h8_ h9_ h10_ h11_ h12_ h13_ h14_ h15_; have BK185 := n0_; have BK190 := n1_; have BK191 := n2_; have BK195 := n3_; have BK201 := n4_; have GW201 := n5_; have GE201 := n6_; have NB185_201 := n7_; have NB201_185 := n8_; have NB190_201 := n9_; have NB201_190 := n10_; have NB191_201 := n11_; have NB201_191 := n12_; have NB195_201 := n13_; have NB201_195 := n14_; have HB := n15_; clear n0_ n1_ n2_ n3_ n4_ n5_ n6_ n7_ n8_ n9_ n10_ n11_ n12_ n13_ n14_ n15_
  have hHeld : w63.cell? ⟨gb191, 0, none⟩ = some (.int .u64 t188) ∧ w63.cell? ⟨gb191, 1, none⟩ = some (.int .u64 t189) ∧ w63.cell? ⟨gb185, 0, none⟩ = some (.int .i64 a0_0) ∧ w63.cell? ⟨gb185, 1, none⟩ = some (.int .i64 a0_1) ∧ w63.cell? ⟨gb185, 2, none⟩ = some (.int .i64 a0_2) ∧ w63.cell? ⟨gb185, 3, none⟩ = some (.int .i64 a0_3) ∧ w63.cell? ⟨gb185, 4, none⟩ = some (.int .i64 a0_4) ∧ w63.cell? ⟨gb185, 5, none⟩ = some (.int .i64 a0_5) ∧ w63.cell? ⟨gb185, 6, none⟩ = some (.int .i64 a0_6) ∧ w63.cell? ⟨gb185, 7, none⟩ = some (.int .i64 a0_7) := hS_
  refine norm_ (a' := ?_) ?_ ?_
  rotate_left
  ·simp only [putAll, Act.put, List.setIfInBounds_toArray, List.set_cons_zero, List.set_cons_succ]
   rfl
  refine one_ (i := 16) (N := none) #[true, true, true, true, true, true, true, true, true, true, true, true, true, true, true, true, true, false] rfl rfl (one_of HT_.out (by kernel_rfl)) (by decide) (fun K hK => ?_)
  have hs64 : w63.cell? ⟨gb201, 0, none⟩ = some (.int .u64 0) := (blk_cell BK201.out 0).trans rfl
  have hfs64 := blk_frozen BK201.out 0
  have hns64_0 := NB185_201.out
  have hns64_1 := NB190_201.out
  have hns64_2 := NB191_201.out
  have hns64_3 := NB195_201.out
  have hms64_0 := NB201_185.out
  have hms64_1 := NB201_190.out
  have hms64_2 := NB201_191.out
  have hms64_3 := NB201_195.out
  have hs65 : w63.cell? ⟨gb201, 1, none⟩ = some (.int .u64 0) := (blk_cell BK201.out 1).trans rfl
  have hfs65 := blk_frozen BK201.out 1
  have hns65_0 := NB185_201.out
  have hns65_1 := NB190_201.out
  have hns65_2 := NB191_201.out
  have hns65_3 := NB195_201.out
  have hms65_0 := NB201_185.out
  have hms65_1 := NB201_190.out
  have hms65_2 := NB201_191.out
  have hms65_3 := NB201_195.out
  refine skip_ (w1 := ?_) (by rfl) rfl ?_ ?_
  rotate_left
  ·go_simp
   rfl
  refine hK.out _ _ ⟨((cell_far (p := ⟨gb201, _, none⟩) NB191_201.out _).trans (((cell_far (p := ⟨gb201, _, none⟩) NB191_201.out _).trans (hHeld.1)))), ((cell_far (p := ⟨gb201, _, none⟩) NB191_201.out _).trans (((cell_far (p := ⟨gb201, _, none⟩) NB191_201.out _).trans (hHeld.2.1)))), ((cell_far (p := ⟨gb201, _, none⟩) NB185_201.out _).trans (((cell_far (p := ⟨gb201, _, none⟩) NB185_201.out _).trans (hHeld.2.2.1)))), ((cell_far (p := ⟨gb201, _, none⟩) NB185_201.out _).trans (((cell_far (p := ⟨gb201, _, none⟩) NB185_201.out _).trans (hHeld.2.2.2.1)))), ((cell_far (p := ⟨gb201, _, none⟩) NB185_201.out _).trans (((cell_far (p := ⟨gb201, _, none⟩) NB185_201.out _).trans (hHeld.2.2.2.2.1)))), ((cell_far (p := ⟨gb201, _, none⟩) NB185_201.out _).trans (((cell_far (p := ⟨gb201, _, none⟩) NB185_201.out _).trans (hHeld.2.2.2.2.2.1)))), ((cell_far (p := ⟨gb201, _, none⟩) NB185_201.out _).trans (((cell_far (p := ⟨gb201, _, none⟩) NB185_201.out _).trans (hHeld.2.2.2.2.2.2.1)))), ((cell_far (p := ⟨gb201, _, none⟩) NB185_201.out _).trans (((cell_far (p := ⟨gb201, _, none⟩) NB185_201.out _).trans (hHeld.2.2.2.2.2.2.2.1)))), ((cell_far (p := ⟨gb201, _, none⟩) NB185_201.out _).trans (((cell_far (p := ⟨gb201, _, none⟩) NB185_201.out _).trans (hHeld.2.2.2.2.2.2.2.2.1)))), ((cell_far (p := ⟨gb201, _, none⟩) NB185_201.out _).trans (((cell_far (p := ⟨gb201, _, none⟩) NB185_201.out _).trans (hHeld.2.2.2.2.2.2.2.2.2))))⟩ (fun hHeld => ?_)
  clear hK K
  refine pure_ (i := 17) (N := some 8) (v := ?_) (a' := ?_) #[true, true, true, true, true, true, true, true, true, true, true, true, true, true, true, true, true, true] rfl rfl (any_of HT_.out (by kernel_rfl)) (fun _ _ _ h => h) (Or.inl ⟨by rfl, ?_⟩) ?_ ?_
  rotate_left
  ·intro w'
   go_simp; with_reducible rfl
  rotate_left
  ·simp only [Act.put, List.setIfInBounds_toArray, List.set_cons_zero, List.set_cons_succ, i64_w, i32_w]
   rfl
  refine done_ (done_of HT_.out (by kernel_rfl)) ?_
  have hnb66 := NB195_201.out
  have hnc66 := NB201_195.out
  have hcz67_0 : w63.cell? ⟨gb195, 0, none⟩ = some (.int .u64 t192) := (blk_cell BK195.out 0).trans rfl
  have hcz67_1 : w63.cell? ⟨gb195, 1, none⟩ = some (.int .u64 t193) := (blk_cell BK195.out 1).trans rfl
  have hfz67_0 := blk_frozen BK195.out 0
  have hfz67_1 := blk_frozen BK195.out 1
  have hnb68 := NB201_185.out
  have hnc68 := NB185_201.out
  have hnb69 := NB201_190.out
  have hnc69 := NB190_201.out
  have hnb70 := NB201_191.out
  have hnc70 := NB191_201.out
  have hcz71_0 : w63.cell? ⟨gb201, 0, none⟩ = some (.int .u64 0) := (blk_cell BK201.out 0).trans rfl
  have hcz71_1 : w63.cell? ⟨gb201, 1, none⟩ = some (.int .u64 0) := (blk_cell BK201.out 1).trans rfl
  have hfz71_0 := blk_frozen BK201.out 0
  have hfz71_1 := blk_frozen BK201.out 1
  try go_wp2_with (first | ((with_reducible refine gate_callee (f := 43) rfl ?_); refine goesL_ (some 36) rfl rfl Tryd.func43 (by kernel_rfl) rfl #[.agg #[.int .u64 t192, .int .u64 t193], .agg #[.int .u64 t198, .int .u64 t199]] rfl aA ?_; (with_reducible refine (wide_Cmp.calls t192 t193 t198 t199 t202 _ A7.out).mono ?_); rintro e w72 ⟨rfl, hb⟩; refine ⟨_, rfl, ?_⟩; have n0_ := Aside0.mk (blk_below (g := gb185) (o := .cells #[.int .i64 a0_0, .int .i64 a0_1, .int .i64 a0_2, .int .i64 a0_3, .int .i64 a0_4, .int .i64 a0_5, .int .i64 a0_6, .int .i64 a0_7] 69 (0, 0)) (by (with_reducible repeat (first | refine blk_drewN ?_ _ | refine blk_drew ?_ | refine blk_alloc ?_ _)); refine blk_far ?_ NB185_201.out _; (with_reducible repeat (first | refine blk_drewN ?_ _ | refine blk_drew ?_ | refine blk_alloc ?_ _)); refine blk_far ?_ NB185_201.out _; exact kA) hb); have n1_ := Aside0.mk (blk_below (g := gb190) (o := .cells #[.int .u64 t186, .int .u64 t187] 76 (0, 0)) (by (with_reducible repeat (first | refine blk_drewN ?_ _ | refine blk_drew ?_ | refine blk_alloc ?_ _)); refine blk_far ?_ NB190_201.out _; (with_reducible repeat (first | refine blk_drewN ?_ _ | refine blk_drew ?_ | refine blk_alloc ?_ _)); refine blk_far ?_ NB190_201.out _; exact kA) hb); have n2_ := Aside0.mk (blk_below (g := gb191) (o := .cells #[.int .u64 t188, .int .u64 t189] 76 (0, 0)) (by (with_reducible repeat (first | refine blk_drewN ?_ _ | refine blk_drew ?_ | refine blk_alloc ?_ _)); refine blk_far ?_ NB191_201.out _; (with_reducible repeat (first | refine blk_drewN ?_ _ | refine blk_drew ?_ | refine blk_alloc ?_ _)); refine blk_far ?_ NB191_201.out _; exact kA) hb); have n3_ := Aside0.mk (blk_below (g := gb195) (o := .cells #[.int .u64 t192, .int .u64 t193] 76 (0, 0)) (by (with_reducible repeat (first | refine blk_drewN ?_ _ | refine blk_drew ?_ | refine blk_alloc ?_ _)); refine blk_far ?_ NB195_201.out _; (with_reducible repeat (first | refine blk_drewN ?_ _ | refine blk_drew ?_ | refine blk_alloc ?_ _)); refine blk_far ?_ NB195_201.out _; exact kA) hb); have n4_ := Aside0.mk (blk_below (g := gb201) (o := .cells #[.int .u64 t198, .int .u64 t199] 76 (0, 0)) (by (with_reducible repeat (first | refine blk_drewN ?_ _ | refine blk_drew ?_ | refine blk_alloc ?_ _)); refine blk_put (cs := #[.int .u64 t198, .int .u64 0]) ?_ 1 _ rfl; (with_reducible repeat (first | refine blk_drewN ?_ _ | refine blk_drew ?_ | refine blk_alloc ?_ _)); refine blk_put (cs := #[.int .u64 0, .int .u64 0]) ?_ 0 _ rfl; exact kA) hb); have n5_ := Aside0.mk (below_step bA hb); clear BK185 BK190 BK191 BK195 BK201 HB; have BK185 := n0_; have BK190 := n1_; have BK191 := n2_; have BK195 := n3_; have BK201 := n4_; have HB := n5_; clear n0_ n1_ n2_ n3_ n4_ n5_; (try clear hb)))
  go_ret
  exact ⟨by first | rfl | (simp [errW_none, errW_some] <;> rfl) | (simp [*, errW_none, errW_some] <;> rfl), bA⟩

end Go.Proofs.YtbhijfbjdbjpbaaDoor.GSH
