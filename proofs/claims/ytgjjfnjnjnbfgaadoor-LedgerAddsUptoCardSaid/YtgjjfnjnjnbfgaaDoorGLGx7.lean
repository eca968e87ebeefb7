-- Laid by a program of this session (wip/tools/pr.py): contracts and pure functions; Lean checks it.
import Derived.Test.YtgjjfnjnjnbfgaaDoorGLGx0
import Derived.Test.YtgjjfnjnjnbfgaaDoorGLGx2
import Derived.Test.YtgjjfnjnjnbfgaaDoorGLGx4
import Derived.Test.YtgjjfnjnjnbfgaaDoorGLGx5
import Derived.Test.YtgjjfnjnjnbfgaaDoorGLGx6
namespace Go.Proofs.YtgjjfnjnjnbfgaaDoor.GLG
open Go.RowKit Go.Proofs.YtgjjfnjnjnbfgaaDoorW.PrintWords Go.Proofs.YtgjjfnjnjnbfgaaDoorW.PrintLast Go.Proofs.YtgjjfnjnjnbfgaaDoorW.PrintMore
attribute [local go_sem] max2_int min2_int max_two min_two max_three min_three max_four min_four   -- for this text's walks alone
set_option linter.unusedVariables false
set_option linter.unusedSimpArgs false

/-! ### config_asked_off: function 43 -/
def config_asked_off.f (a0_0 : Int) (a0_1 : Int) (a0_2 : Int) (a0_3 : Int) (a0_4 : Int) (a0_5 : Int) (a0_6 : Int) (a0_7 : Int) : Option (Int) := (config_asked_bounds.f a0_0 a0_1 a0_2 a0_3 a0_4 a0_5 a0_6 a0_7).bind fun bt185 => ((wide_Times.f bt185.1 bt185.2.1 1000).bind fun bt191 => ((config_asked_bound.f a0_0 a0_1 a0_2 a0_3 a0_4 a0_5 a0_6 a0_7).bind fun t195 => ((config_asked_fairSize.f a0_0 a0_1 a0_2 a0_3 a0_4 a0_5 a0_6 a0_7).bind fun t196 => ((wide_Times.f bt185.2.2.1 bt185.2.2.2 (IntKind.u64.wrap (wrap64 ((wrap64 (a0_3 * t195)) + t196)))).bind fun bt197 => ((wide_Cmp.f bt191.1 bt191.2.1 bt197.1 bt197.2.1).bind fun t201 => (if t201 > 0 then (some 113) else (some 0)))))))
def config_asked_off.T3 : Bool × List (List Nat × List Nat) := (true, [([], []), ([], []), ([1], [1]), ([2], [2]), ([], []), ([4], [4]), ([3, 5], [3, 5]), ([], []), ([7, 5], [7]), ([6, 8], [6, 8]), ([9], [9]), ([0, 10, 8], [0, 10]), ([11], [11]), ([12], [12]), ([12], [12]), ([], []), ([15, 13, 11, 0, 1, 2, 3, 4, 5, 6, 7, 8, 9, 10, 11, 12, 13, 15], [13, 15]), ([14, 16, 0, 1, 2, 3, 4, 5, 6, 7, 8, 9, 10, 11, 12, 13, 14, 15, 16], [14])])
def config_asked_off.B3 : List Nat := [0, 0, 2, 6, 0, 16, 62, 0, 176, 510, 1022, 2047, 4095, 8191, 8191, 0, 49151, 131071]
theorem config_asked_off.tab3 : rtab .any (opsOf Tryd.f43 3) = config_asked_off.T3 := by kernel_rfl
theorem config_asked_off.bits3 : waitsOk config_asked_off.T3.2 config_asked_off.B3 = true := by kernel_rfl
set_option maxHeartbeats 8000000 in
set_option maxRecDepth 100000 in
theorem config_asked_off.calls (a0_0 : Int) (a0_1 : Int) (a0_2 : Int) (a0_3 : Int) (a0_4 : Int) (a0_5 : Int) (a0_6 : Int) (a0_7 : Int) (r : Int) (w : World) (h : config_asked_off.f a0_0 a0_1 a0_2 a0_3 a0_4 a0_5 a0_6 a0_7 = some r) :
  Calls Tryd.prog 43 #[.agg #[.int .i64 a0_0, .int .i64 a0_1, .int .i64 a0_2, .int .i64 a0_3, .int .i64 a0_4, .int .i64 a0_5, .int .i64 a0_6, .int .i64 a0_7]] w fun e w' => e = .returned (.int .i64 r) ∧ Below w.heap.size w w' := by
 have hu77 := Tryd.underlying77
 have hu87 := Tryd.underlying87
 have HB := Aside0.mk (Below.refl w.heap.size w)
 have H : ((config_asked_bounds.f a0_0 a0_1 a0_2 a0_3 a0_4 a0_5 a0_6 a0_7).bind fun bt185 => ((wide_Times.f bt185.1 bt185.2.1 1000).bind fun bt191 => ((config_asked_bound.f a0_0 a0_1 a0_2 a0_3 a0_4 a0_5 a0_6 a0_7).bind fun t195 => ((config_asked_fairSize.f a0_0 a0_1 a0_2 a0_3 a0_4 a0_5 a0_6 a0_7).bind fun t196 => ((wide_Times.f bt185.2.2.1 bt185.2.2.2 (IntKind.u64.wrap (wrap64 ((wrap64 (a0_3 * t195)) + t196)))).bind fun bt197 => ((wide_Cmp.f bt191.1 bt191.2.1 bt197.1 bt197.2.1).bind fun t201 => (if t201 > 0 then (some 113) else (some 0)))))))) = some r := h
 clear h; replace H := Option.bind_eq_some_iff.mp H; obtain ⟨⟨t185, t186, t187, t188⟩, A20, H⟩ := H; replace H : ((wide_Times.f t185 t186 1000).bind fun bt191 => ((config_asked_bound.f a0_0 a0_1 a0_2 a0_3 a0_4 a0_5 a0_6 a0_7).bind fun t195 => ((config_asked_fairSize.f a0_0 a0_1 a0_2 a0_3 a0_4 a0_5 a0_6 a0_7).bind fun t196 => ((wide_Times.f t187 t188 (IntKind.u64.wrap (wrap64 ((wrap64 (a0_3 * t195)) + t196)))).bind fun bt197 => ((wide_Cmp.f bt191.1 bt191.2.1 bt197.1 bt197.2.1).bind fun t201 => (if t201 > 0 then (some 113) else (some 0))))))) = some r := H; have A2 := Aside0.mk A20; clear A20; replace H := Option.bind_eq_some_iff.mp H; obtain ⟨⟨t191, t192, t193⟩, A30, H⟩ := H; replace H : ((config_asked_bound.f a0_0 a0_1 a0_2 a0_3 a0_4 a0_5 a0_6 a0_7).bind fun t195 => ((config_asked_fairSize.f a0_0 a0_1 a0_2 a0_3 a0_4 a0_5 a0_6 a0_7).bind fun t196 => ((wide_Times.f t187 t188 (IntKind.u64.wrap (wrap64 ((wrap64 (a0_3 * t195)) + t196)))).bind fun bt197 => ((wide_Cmp.f t191 t192 bt197.1 bt197.2.1).bind fun t201 => (if t201 > 0 then (some 113) else (some 0)))))) = some r := H; have A3 := Aside0.mk A30; clear A30; replace H := Option.bind_eq_some_iff.mp H; obtain ⟨t195, A40, H⟩ := H; replace H : ((config_asked_fairSize.f a0_0 a0_1 a0_2 a0_3 a0_4 a0_5 a0_6 a0_7).bind fun t196 => ((wide_Times.f t187 t188 (IntKind.u64.wrap (wrap64 ((wrap64 (a0_3 * t195)) + t196)))).bind fun bt197 => ((wide_Cmp.f t191 t192 bt197.1 bt197.2.1).bind fun t201 => (if t201 > 0 then (some 113) else (some 0))))) = some r := H; have A4 := Aside0.mk A40; clear A40; replace H := Option.bind_eq_some_iff.mp H; obtain ⟨t196, A50, H⟩ := H; replace H : ((wide_Times.f t187 t188 (IntKind.u64.wrap (wrap64 ((wrap64 (a0_3 * t195)) + t196)))).bind fun bt197 => ((wide_Cmp.f t191 t192 bt197.1 bt197.2.1).bind fun t201 => (if t201 > 0 then (some 113) else (some 0)))) = some r := H; have A5 := Aside0.mk A50; clear A50; replace H := Option.bind_eq_some_iff.mp H; obtain ⟨⟨t197, t198, t199⟩, A60, H⟩ := H; replace H : ((wide_Cmp.f t191 t192 t197 t198).bind fun t201 => (if t201 > 0 then (some 113) else (some 0))) = some r := H; have A6 := Aside0.mk A60; clear A60; replace H := Option.bind_eq_some_iff.mp H; obtain ⟨t201, A70, H⟩ := H; replace H : (if t201 > 0 then (some 113) else (some 0)) = some r := H; have A7 := Aside0.mk A70; clear A70
 by_cases c8 : t201 > 0
 ·rw [if_pos c8] at H
  have c8b0 : decide (0 < t201) = true := decide_eq_true c8
  clear c8
  obtain rfl := Option.some.inj H
  go_enter Tryd.func43, Tryd.ntmps43
  try go_wp2_with (first | ((with_reducible refine gate_dst (N := 1) rfl ?_); refine bxA 1 #[.int .i64 a0_0, .int .i64 a0_1, .int .i64 a0_2, .int .i64 a0_3, .int .i64 a0_4, .int .i64 a0_5, .int .i64 a0_6, .int .i64 a0_7] 77 ?_; intro gb184 hg w9 hbox hb; have n0_ := Aside0.mk (below_step bA hb); have n1_ := Aside0.mk (hbox); have n2_ := Aside0.mk (gwA hg bA); have n3_ := Aside0.mk (gwA hg bA); clear HB; have HB := n0_; have BK184 := n1_; have GW184 := n2_; have GE184 := n3_; clear n0_ n1_ n2_ n3_ hb hbox hg; have hcz10_0 : w9.cell? ⟨gb184, 0, none⟩ = some (.int .i64 a0_0) := (blk_cell BK184.out 0).trans rfl; have hcz10_1 : w9.cell? ⟨gb184, 1, none⟩ = some (.int .i64 a0_1) := (blk_cell BK184.out 1).trans rfl; have hcz10_2 : w9.cell? ⟨gb184, 2, none⟩ = some (.int .i64 a0_2) := (blk_cell BK184.out 2).trans rfl; have hcz10_3 : w9.cell? ⟨gb184, 3, none⟩ = some (.int .i64 a0_3) := (blk_cell BK184.out 3).trans rfl; have hcz10_4 : w9.cell? ⟨gb184, 4, none⟩ = some (.int .i64 a0_4) := (blk_cell BK184.out 4).trans rfl; have hcz10_5 : w9.cell? ⟨gb184, 5, none⟩ = some (.int .i64 a0_5) := (blk_cell BK184.out 5).trans rfl; have hcz10_6 : w9.cell? ⟨gb184, 6, none⟩ = some (.int .i64 a0_6) := (blk_cell BK184.out 6).trans rfl; have hcz10_7 : w9.cell? ⟨gb184, 7, none⟩ = some (.int .i64 a0_7) := (blk_cell BK184.out 7).trans rfl; have hfz10_0 := blk_frozen BK184.out 0; have hfz10_1 := blk_frozen BK184.out 1; have hfz10_2 := blk_frozen BK184.out 2; have hfz10_3 := blk_frozen BK184.out 3; have hfz10_4 := blk_frozen BK184.out 4; have hfz10_5 := blk_frozen BK184.out 5; have hfz10_6 := blk_frozen BK184.out 6; have hfz10_7 := blk_frozen BK184.out 7) | ((with_reducible refine gate_callee (f := 66) rfl ?_); refine goesL_ (some 11) rfl rfl Tryd.func66 (by kernel_rfl) rfl #[.agg #[.int .i64 a0_0, .int .i64 a0_1, .int .i64 a0_2, .int .i64 a0_3, .int .i64 a0_4, .int .i64 a0_5, .int .i64 a0_6, .int .i64 a0_7]] rfl aA ?_; (with_reducible refine (config_asked_bounds.calls a0_0 a0_1 a0_2 a0_3 a0_4 a0_5 a0_6 a0_7 t185 t186 t187 t188 _ A2.out).mono ?_); rintro e w11 ⟨rfl, hb⟩; refine ⟨_, rfl, ?_⟩; have n0_ := Aside0.mk (blk_below (g := gb184) kA hb); have n1_ := Aside0.mk (below_step bA hb); clear BK184 HB; have BK184 := n0_; have HB := n1_; clear n0_ n1_; (try clear hb)) | ((with_reducible refine gate_dst (N := 3) rfl ?_); refine bxA 3 #[.int .u64 0, .int .u64 0] 87 ?_; intro gb189 hg w12 hbox hb; have n0_ := Aside0.mk (blk_below (g := gb184) kA hb); have n1_ := Aside0.mk (below_step bA hb); have n2_ := Aside0.mk (hbox); have n3_ := Aside0.mk (gwA hg bA); have n4_ := Aside0.mk (gwA hg bA); have n5_ := Aside0.mk (neA (g := gb184) hg kA); have n6_ := Aside0.mk (neB (g := gb184) hg kA); clear BK184 HB; have BK184 := n0_; have HB := n1_; have BK189 := n2_; have GW189 := n3_; have GE189 := n4_; have NB184_189 := n5_; have NB189_184 := n6_; clear n0_ n1_ n2_ n3_ n4_ n5_ n6_ hb hbox hg) | ((with_reducible refine gate_dst (N := 4) rfl ?_); refine bxA 4 #[.int .u64 0, .int .u64 0] 87 ?_; intro gb190 hg w13 hbox hb; have n0_ := Aside0.mk (blk_below (g := gb184) kA hb); have n1_ := Aside0.mk (blk_below (g := gb189) kA hb); have n2_ := Aside0.mk (below_step bA hb); have n3_ := Aside0.mk (hbox); have n4_ := Aside0.mk (gwA hg bA); have n5_ := Aside0.mk (gwA hg bA); have n6_ := Aside0.mk (neA (g := gb184) hg kA); have n7_ := Aside0.mk (neB (g := gb184) hg kA); have n8_ := Aside0.mk (neA (g := gb189) hg kA); have n9_ := Aside0.mk (neB (g := gb189) hg kA); clear BK184 BK189 HB; have BK184 := n0_; have BK189 := n1_; have HB := n2_; have BK190 := n3_; have GW190 := n4_; have GE190 := n5_; have NB184_190 := n6_; have NB190_184 := n7_; have NB189_190 := n8_; have NB190_189 := n9_; clear n0_ n1_ n2_ n3_ n4_ n5_ n6_ n7_ n8_ n9_ hb hbox hg; have hnb14 := NB189_184.out; have hnc14 := NB184_189.out; have hnb15 := NB189_190.out; have hnc15 := NB190_189.out; have hcz16_0 : w13.cell? ⟨gb189, 0, none⟩ = some (.int .u64 0) := (blk_cell BK189.out 0).trans rfl; have hcz16_1 : w13.cell? ⟨gb189, 1, none⟩ = some (.int .u64 0) := (blk_cell BK189.out 1).trans rfl; have hfz16_0 := blk_frozen BK189.out 0; have hfz16_1 := blk_frozen BK189.out 1; have hnb17 := NB190_184.out; have hnc17 := NB184_190.out; have hcz18_0 : w13.cell? ⟨gb190, 0, none⟩ = some (.int .u64 0) := (blk_cell BK190.out 0).trans rfl; have hcz18_1 : w13.cell? ⟨gb190, 1, none⟩ = some (.int .u64 0) := (blk_cell BK190.out 1).trans rfl; have hfz18_0 := blk_frozen BK190.out 0; have hfz18_1 := blk_frozen BK190.out 1) | ((with_reducible refine gate_callee (f := 67) rfl ?_); refine goesL_ (some 16) rfl rfl Tryd.func67 (by kernel_rfl) rfl #[.agg #[.int .u64 t185, .int .u64 t186], .int .u64 1000] rfl aA ?_; (with_reducible refine (wide_Times.calls t185 t186 1000 t191 t192 t193 _ A3.out).mono ?_); rintro e w19 ⟨rfl, hb⟩; refine ⟨_, rfl, ?_⟩; have n0_ := Aside0.mk (blk_below (g := gb184) (o := .cells #[.int .i64 a0_0, .int .i64 a0_1, .int .i64 a0_2, .int .i64 a0_3, .int .i64 a0_4, .int .i64 a0_5, .int .i64 a0_6, .int .i64 a0_7] 77 (0, 0)) (by (with_reducible repeat (first | refine blk_drewN ?_ _ | refine blk_drew ?_ | refine blk_alloc ?_ _)); refine blk_far ?_ NB184_190.out _; (with_reducible repeat (first | refine blk_drewN ?_ _ | refine blk_drew ?_ | refine blk_alloc ?_ _)); refine blk_far ?_ NB184_190.out _; (with_reducible repeat (first | refine blk_drewN ?_ _ | refine blk_drew ?_ | refine blk_alloc ?_ _)); refine blk_far ?_ NB184_189.out _; (with_reducible repeat (first | refine blk_drewN ?_ _ | refine blk_drew ?_ | refine blk_alloc ?_ _)); refine blk_far ?_ NB184_189.out _; exact kA) hb); have n1_ := Aside0.mk (blk_below (g := gb189) (o := .cells #[.int .u64 t185, .int .u64 t186] 87 (0, 0)) (by (with_reducible repeat (first | refine blk_drewN ?_ _ | refine blk_drew ?_ | refine blk_alloc ?_ _)); refine blk_far ?_ NB189_190.out _; (with_reducible repeat (first | refine blk_drewN ?_ _ | refine blk_drew ?_ | refine blk_alloc ?_ _)); refine blk_far ?_ NB189_190.out _; (with_reducible repeat (first | refine blk_drewN ?_ _ | refine blk_drew ?_ | refine blk_alloc ?_ _)); refine blk_put (cs := #[.int .u64 t185, .int .u64 0]) ?_ 1 _ rfl; (with_reducible repeat (first | refine blk_drewN ?_ _ | refine blk_drew ?_ | refine blk_alloc ?_ _)); refine blk_put (cs := #[.int .u64 0, .int .u64 0]) ?_ 0 _ rfl; exact kA) hb); have n2_ := Aside0.mk (blk_below (g := gb190) (o := .cells #[.int .u64 t187, .int .u64 t188] 87 (0, 0)) (by (with_reducible repeat (first | refine blk_drewN ?_ _ | refine blk_drew ?_ | refine blk_alloc ?_ _)); refine blk_put (cs := #[.int .u64 t187, .int .u64 0]) ?_ 1 _ rfl; (with_reducible repeat (first | refine blk_drewN ?_ _ | refine blk_drew ?_ | refine blk_alloc ?_ _)); refine blk_put (cs := #[.int .u64 0, .int .u64 0]) ?_ 0 _ rfl; (with_reducible repeat (first | refine blk_drewN ?_ _ | refine blk_drew ?_ | refine blk_alloc ?_ _)); refine blk_far ?_ NB190_189.out _; (with_reducible repeat (first | refine blk_drewN ?_ _ | refine blk_drew ?_ | refine blk_alloc ?_ _)); refine blk_far ?_ NB190_189.out _; exact kA) hb); have n3_ := Aside0.mk (below_step bA hb); clear BK184 BK189 BK190 HB; have BK184 := n0_; have BK189 := n1_; have BK190 := n2_; have HB := n3_; clear n0_ n1_ n2_ n3_; (try clear hb)) | ((with_reducible refine gate_dst (N := 5) rfl ?_); refine bxA 5 #[.int .u64 0, .int .u64 0] 87 ?_; intro gb194 hg w20 hbox hb; have n0_ := Aside0.mk (blk_below (g := gb184) kA hb); have n1_ := Aside0.mk (blk_below (g := gb189) kA hb); have n2_ := Aside0.mk (blk_below (g := gb190) kA hb); have n3_ := Aside0.mk (below_step bA hb); have n4_ := Aside0.mk (hbox); have n5_ := Aside0.mk (gwA hg bA); have n6_ := Aside0.mk (gwA hg bA); have n7_ := Aside0.mk (neA (g := gb184) hg kA); have n8_ := Aside0.mk (neB (g := gb184) hg kA); have n9_ := Aside0.mk (neA (g := gb189) hg kA); have n10_ := Aside0.mk (neB (g := gb189) hg kA); have n11_ := Aside0.mk (neA (g := gb190) hg kA); have n12_ := Aside0.mk (neB (g := gb190) hg kA); clear BK184 BK189 BK190 HB; have BK184 := n0_; have BK189 := n1_; have BK190 := n2_; have HB := n3_; have BK194 := n4_; have GW194 := n5_; have GE194 := n6_; have NB184_194 := n7_; have NB194_184 := n8_; have NB189_194 := n9_; have NB194_189 := n10_; have NB190_194 := n11_; have NB194_190 := n12_; clear n0_ n1_ n2_ n3_ n4_ n5_ n6_ n7_ n8_ n9_ n10_ n11_ n12_ hb hbox hg; have hnb21 := NB194_184.out; have hnc21 := NB184_194.out; have hnb22 := NB194_189.out; have hnc22 := NB189_194.out; have hnb23 := NB194_190.out; have hnc23 := NB190_194.out; have hcz24_0 : w20.cell? ⟨gb194, 0, none⟩ = some (.int .u64 0) := (blk_cell BK194.out 0).trans rfl; have hcz24_1 : w20.cell? ⟨gb194, 1, none⟩ = some (.int .u64 0) := (blk_cell BK194.out 1).trans rfl; have hfz24_0 := blk_frozen BK194.out 0; have hfz24_1 := blk_frozen BK194.out 1))
  have n0_ : Aside0 (((w20.setCell ⟨gb194, 0, none⟩ (.int .u64 t191)).setCell ⟨gb194, 1, none⟩ (.int .u64 t192)).heap[gb184]? = some (.cells #[.int .i64 a0_0, .int .i64 a0_1, .int .i64 a0_2, .int .i64 a0_3, .int .i64 a0_4, .int .i64 a0_5, .int .i64 a0_6, .int .i64 a0_7] 77 (0, 0))) := ⟨by (with_reducible repeat (first | refine blk_drewN ?_ _ | refine blk_drew ?_ | refine blk_alloc ?_ _)); refine blk_far ?_ NB184_194.out _; (with_reducible repeat (first | refine blk_drewN ?_ _ | refine blk_drew ?_ | refine blk_alloc ?_ _)); refine blk_far ?_ NB184_194.out _; exact kA⟩
  have n1_ : Aside0 (((w20.setCell ⟨gb194, 0, none⟩ (.int .u64 t191)).setCell ⟨gb194, 1, none⟩ (.int .u64 t192)).heap[gb189]? = some (.cells #[.int .u64 t185, .int .u64 t186] 87 (0, 0))) := ⟨by (with_reducible repeat (first | refine blk_drewN ?_ _ | refine blk_drew ?_ | refine blk_alloc ?_ _)); refine blk_far ?_ NB189_194.out _; (with_reducible repeat (first | refine blk_drewN ?_ _ | refine blk_drew ?_ | refine blk_alloc ?_ _)); refine blk_far ?_ NB189_194.out _; exact kA⟩
  have n2_ : Aside0 (((w20.setCell ⟨gb194, 0, none⟩ (.int .u64 t191)).setCell ⟨gb194, 1, none⟩ (.int .u64 t192)).heap[gb190]? = some (.cells #[.int .u64 t187, .int .u64 t188] 87 (0, 0))) := ⟨by (with_reducible repeat (first | refine blk_drewN ?_ _ | refine blk_drew ?_ | refine blk_alloc ?_ _)); refine blk_far ?_ NB190_194.out _; (with_reducible repeat (first | refine blk_drewN ?_ _ | refine blk_drew ?_ | refine blk_alloc ?_ _)); refine blk_far ?_ NB190_194.out _; exact kA⟩
  have n3_ : Aside0 (((w20.setCell ⟨gb194, 0, none⟩ (.int .u64 t191)).setCell ⟨gb194, 1, none⟩ (.int .u64 t192)).heap[gb194]? = some (.cells #[.int .u64 t191, .int .u64 t192] 87 (0, 0))) := ⟨by (with_reducible repeat (first | refine blk_drewN ?_ _ | refine blk_drew ?_ | refine blk_alloc ?_ _)); refine blk_put (cs := #[.int .u64 t191, .int .u64 0]) ?_ 1 _ rfl; (with_reducible repeat (first | refine blk_drewN ?_ _ | refine blk_drew ?_ | refine blk_alloc ?_ _)); refine blk_put (cs := #[.int .u64 0, .int .u64 0]) ?_ 0 _ rfl; exact kA⟩
  have n4_ : Aside0 (Below w.heap.size w ((w20.setCell ⟨gb194, 0, none⟩ (.int .u64 t191)).setCell ⟨gb194, 1, none⟩ (.int .u64 t192))) := ⟨bA⟩
  (try clear BK184); (try clear BK189); (try clear BK190); (try clear BK194); (try clear HB)
  generalize ((w20.setCell ⟨gb194, 0, none⟩ (.int .u64 t191)).setCell ⟨gb194, 1, none⟩ (.int .u64 t192)) = w25 at n0_ n1_ n2_ n3_ n4_ ⊢
  have BK184 := n0_; have BK189 := n1_; have BK190 := n2_; have BK194 := n3_; have HB := n4_; clear n0_ n1_ n2_ n3_ n4_; have n0_ := Aside0.mk (blk_drew BK184.out); have n1_ := Aside0.mk (blk_drew BK189.out); have n2_ := Aside0.mk (blk_drew BK190.out); have n3_ := Aside0.mk (blk_drew BK194.out); have n4_ := Aside0.mk (below_drew1 HB.out); clear BK184 BK189 BK190 BK194 HB; have BK184 := n0_; have BK189 := n1_; have BK190 := n2_; have BK194 := n3_; have HB := n4_; clear n0_ n1_ n2_ n3_ n4_
  refine start_ (n := 18) (S := fun w' => w'.cell? ⟨gb190, 0, none⟩ = some (.int .u64 t187) ∧ w'.cell? ⟨gb190, 1, none⟩ = some (.int .u64 t188) ∧ w'.cell? ⟨gb184, 0, none⟩ = some (.int .i64 a0_0) ∧ w'.cell? ⟨gb184, 1, none⟩ = some (.int .i64 a0_1) ∧ w'.cell? ⟨gb184, 2, none⟩ = some (.int .i64 a0_2) ∧ w'.cell? ⟨gb184, 3, none⟩ = some (.int .i64 a0_3) ∧ w'.cell? ⟨gb184, 4, none⟩ = some (.int .i64 a0_4) ∧ w'.cell? ⟨gb184, 5, none⟩ = some (.int .i64 a0_5) ∧ w'.cell? ⟨gb184, 6, none⟩ = some (.int .i64 a0_6) ∧ w'.cell? ⟨gb184, 7, none⟩ = some (.int .i64 a0_7)) (ds := []) #[false, false, false, false, false, false, false, false, false, false, false, false, false, false, false, false, false, false] (by kernel_rfl) rfl rfl ⟨(blk_cell BK190.out 0).trans rfl, (blk_cell BK190.out 1).trans rfl, (blk_cell BK184.out 0).trans rfl, (blk_cell BK184.out 1).trans rfl, (blk_cell BK184.out 2).trans rfl, (blk_cell BK184.out 3).trans rfl, (blk_cell BK184.out 4).trans rfl, (blk_cell BK184.out 5).trans rfl, (blk_cell BK184.out 6).trans rfl, (blk_cell BK184.out 7).trans rfl⟩ (fun hHeld => ?_); refine with_tabW config_asked_off.tab3 config_asked_off.bits3 (fun HT_ HW_ => ?_)
  generalize w25.drew = w26 at BK184 BK189 BK190 BK194 HB hHeld ⊢
  refine pure_ (i := 1) (N := some 21) (v := ?_) (a' := ?_) #[false, true, false, false, false, false, false, false, false, false, false, false, false, false, false, false, false, false] rfl rfl (any_of HT_.out (by kernel_rfl)) (fun _ _ _ h => h) (Or.inl ⟨by rfl, ?_⟩) ?_ ?_
  rotate_left
  ·intro w'
   go_simp; with_reducible rfl
  rotate_left
  ·simp only [Act.put, List.setIfInBounds_toArray, List.set_cons_zero, List.set_cons_succ, i64_w, i32_w]
   rfl
  refine pure_ (i := 2) (N := some 22) (v := ?_) (a' := ?_) #[false, true, true, false, false, false, false, false, false, false, false, false, false, false, false, false, false, false] rfl rfl (any_of HT_.out (by kernel_rfl)) (fun _ _ _ h => h) (Or.inl ⟨by rfl, ?_⟩) ?_ ?_
  rotate_left
  ·intro w'
   go_simp; with_reducible rfl
  rotate_left
  ·simp only [Act.put, List.setIfInBounds_toArray, List.set_cons_zero, List.set_cons_succ, i64_w, i32_w]
   rfl
  refine take_ (i := 0) (N := some 20) (v := ?_) (a' := ?_) #[true, true, true, false, false, false, false, false, false, false, false, false, false, false, false, false, false, false] rfl rfl (take_ofW HT_.out HW_.out (by kernel_rfl)) (fun _ _ _ h => h) (Or.inl ⟨by rfl, ?_⟩) hHeld ?_ ?_
  rotate_left
  ·rintro w' ⟨s0, s1, s2, s3, s4, s5, s6, s7, s8, s9⟩
   go_simp; with_reducible rfl
  rotate_left
  ·simp only [Act.put, List.setIfInBounds_toArray, List.set_cons_zero, List.set_cons_succ, i64_w, i32_w]
   rfl
  refine take_ (i := 3) (N := some 23) (v := ?_) (a' := ?_) #[true, true, true, true, false, false, false, false, false, false, false, false, false, false, false, false, false, false] rfl rfl (take_ofW HT_.out HW_.out (by kernel_rfl)) (fun _ _ _ h => h) (Or.inl ⟨by rfl, ?_⟩) hHeld ?_ ?_
  rotate_left
  ·rintro w' ⟨s0, s1, s2, s3, s4, s5, s6, s7, s8, s9⟩
   go_simp; with_reducible rfl
  rotate_left
  ·simp only [Act.put, List.setIfInBounds_toArray, List.set_cons_zero, List.set_cons_succ, i64_w, i32_w]
   rfl
  refine take_ (i := 4) (N := some 24) (v := ?_) (a' := ?_) #[true, true, true, true, true, false, false, false, false, false, false, false, false, false, false, false, false, false] rfl rfl (take_ofW HT_.out HW_.out (by kernel_rfl)) (fun _ _ _ h => h) (Or.inl ⟨by rfl, ?_⟩) hHeld ?_ ?_
  rotate_left
  ·rintro w' ⟨s0, s1, s2, s3, s4, s5, s6, s7, s8, s9⟩
   go_simp; with_reducible rfl
  rotate_left
  ·simp only [Act.put, List.setIfInBounds_toArray, List.set_cons_zero, List.set_cons_succ, i64_w, i32_w]
   rfl
  refine take_ (i := 7) (N := some 27) (v := ?_) (a' := ?_) #[true, true, true, true, true, false, false, true, false, false, false, false, false, false, false, false, false, false] rfl rfl (take_ofW HT_.out HW_.out (by kernel_rfl)) (fun _ _ _ h => h) (Or.inl ⟨by rfl, ?_⟩) hHeld ?_ ?_
  rotate_left
  ·rintro w' ⟨s0, s1, s2, s3, s4, s5, s6, s7, s8, s9⟩
   go_simp; with_reducible rfl
  rotate_left
  ·simp only [Act.put, List.setIfInBounds_toArray, List.set_cons_zero, List.set_cons_succ, i64_w, i32_w]
   rfl
  refine join_ (σ := Nat) 2 #[true, true, true, true, true, true, true, true, true, true, true, true, true, true, true, true, false, false] (fun s_ => [(25, .int .i64 t195), (28, .int .i64 t196), (31, .tuple #[.agg #[.int .u64 t197, .int .u64 t198], .bool t199]), (7, .pointer (some ⟨s_, 0, none⟩)), (26, .int .i64 (wrap64 (a0_3 * t195))), (29, .int .i64 (wrap64 ((wrap64 (a0_3 * t195)) + t196))), (30, .int .u64 (IntKind.u64.wrap (wrap64 ((wrap64 (a0_3 * t195)) + t196)))), (19, .tuple #[.agg #[.int .u64 t197, .int .u64 t198], .bool t199]), (32, .agg #[.int .u64 t197, .int .u64 t198]), (33, .bool t199)]) (fun s_ w' => (w'.cell? ⟨gb190, 0, none⟩ = some (.int .u64 t187) ∧ w'.cell? ⟨gb190, 1, none⟩ = some (.int .u64 t188) ∧ w'.cell? ⟨gb184, 0, none⟩ = some (.int .i64 a0_0) ∧ w'.cell? ⟨gb184, 1, none⟩ = some (.int .i64 a0_1) ∧ w'.cell? ⟨gb184, 2, none⟩ = some (.int .i64 a0_2) ∧ w'.cell? ⟨gb184, 3, none⟩ = some (.int .i64 a0_3) ∧ w'.cell? ⟨gb184, 4, none⟩ = some (.int .i64 a0_4) ∧ w'.cell? ⟨gb184, 5, none⟩ = some (.int .i64 a0_5) ∧ w'.cell? ⟨gb184, 6, none⟩ = some (.int .i64 a0_6) ∧ w'.cell? ⟨gb184, 7, none⟩ = some (.int .i64 a0_7)) ∧ (w'.heap[gb184]? = some (.cells #[.int .i64 a0_0, .int .i64 a0_1, .int .i64 a0_2, .int .i64 a0_3, .int .i64 a0_4, .int .i64 a0_5, .int .i64 a0_6, .int .i64 a0_7] 77 (0, 0))) ∧ (w'.heap[gb189]? = some (.cells #[.int .u64 t185, .int .u64 t186] 87 (0, 0))) ∧ (w'.heap[gb190]? = some (.cells #[.int .u64 t187, .int .u64 t188] 87 (0, 0))) ∧ (w'.heap[gb194]? = some (.cells #[.int .u64 t191, .int .u64 t192] 87 (0, 0))) ∧ (w'.heap[s_]? = some (.cells #[.int .u64 0, .int .u64 0] 87 (0, 0))) ∧ (w.heap.size ≤ s_) ∧ (w.heap.size ≤ s_) ∧ (gb184 ≠ s_) ∧ (s_ ≠ gb184) ∧ (gb189 ≠ s_) ∧ (s_ ≠ gb189) ∧ (gb190 ≠ s_) ∧ (s_ ≠ gb190) ∧ (gb194 ≠ s_) ∧ (s_ ≠ gb194) ∧ (Below w.heap.size w w')) ?_ ?_
  rotate_left
  ·intro hCont
   refine two_ (i := 5) (j := 15) (Ni := some 25) (Nj := some 7) #[true, true, true, true, true, true, false, true, false, false, false, false, false, false, false, false, false, false] #[true, true, true, true, true, false, false, true, false, false, false, false, false, false, false, true, false, false] rfl rfl rfl rfl (two_of HT_.out (by kernel_rfl)) (by decide) (by decide) (fun K hK => ?_) (fun K hK => ?_)
   ·skip
    refine goes_ Tryd.func68 (by kernel_rfl) rfl #[.agg #[.int .i64 a0_0, .int .i64 a0_1, .int .i64 a0_2, .int .i64 a0_3, .int .i64 a0_4, .int .i64 a0_5, .int .i64 a0_6, .int .i64 a0_7]] (by rfl) rfl rfl aA ?_
    with_reducible refine (config_asked_bound.calls a0_0 a0_1 a0_2 a0_3 a0_4 a0_5 a0_6 a0_7 t195 _ A4.out).mono ?_
    rintro e w27 ⟨rfl, hb⟩
    refine ⟨_, rfl, ?_⟩; have n0_ := Aside0.mk (blk_below (g := gb184) kA hb); have n1_ := Aside0.mk (blk_below (g := gb189) kA hb); have n2_ := Aside0.mk (blk_below (g := gb190) kA hb); have n3_ := Aside0.mk (blk_below (g := gb194) kA hb); have n4_ := Aside0.mk (below_step bA hb); clear BK184 BK189 BK190 BK194 HB; have BK184 := n0_; have BK189 := n1_; have BK190 := n2_; have BK194 := n3_; have HB := n4_; clear n0_ n1_ n2_ n3_ n4_; (try clear hb)
    refine hK.out _ _ ⟨(blk_cell BK190.out 0).trans rfl, (blk_cell BK190.out 1).trans rfl, (blk_cell BK184.out 0).trans rfl, (blk_cell BK184.out 1).trans rfl, (blk_cell BK184.out 2).trans rfl, (blk_cell BK184.out 3).trans rfl, (blk_cell BK184.out 4).trans rfl, (blk_cell BK184.out 5).trans rfl, (blk_cell BK184.out 6).trans rfl, (blk_cell BK184.out 7).trans rfl⟩ (fun hHeld => ?_)
    clear hK K
    refine norm_ (a' := ?_) ?_ ?_
    rotate_left
    ·show Act.put _ (some 25) _ = _
     simp only [Act.put, List.setIfInBounds_toArray, List.set_cons_zero, List.set_cons_succ, i64_w, i32_w]
     rfl
    refine pure_ (i := 6) (N := some 26) (v := ?_) (a' := ?_) #[true, true, true, true, true, true, true, true, false, false, false, false, false, false, false, false, false, false] rfl rfl (any_of HT_.out (by kernel_rfl)) (fun _ _ _ h => h) (Or.inl ⟨by rfl, ?_⟩) ?_ ?_
    rotate_left
    ·intro w'
     go_simp; with_reducible rfl
    rotate_left
    ·simp only [Act.put, List.setIfInBounds_toArray, List.set_cons_zero, List.set_cons_succ, i64_w, i32_w]
     rfl
    refine two_ (i := 8) (j := 15) (Ni := some 28) (Nj := some 7) #[true, true, true, true, true, true, true, true, true, false, false, false, false, false, false, false, false, false] #[true, true, true, true, true, true, true, true, false, false, false, false, false, false, false, true, false, false] rfl rfl rfl rfl (two_of HT_.out (by kernel_rfl)) (by decide) (by decide) (fun K hK => ?_) (fun K hK => ?_)
    ·skip
     refine goes_ Tryd.func65 (by kernel_rfl) rfl #[.agg #[.int .i64 a0_0, .int .i64 a0_1, .int .i64 a0_2, .int .i64 a0_3, .int .i64 a0_4, .int .i64 a0_5, .int .i64 a0_6, .int .i64 a0_7]] (by rfl) rfl rfl aA ?_
     with_reducible refine (config_asked_fairSize.calls a0_0 a0_1 a0_2 a0_3 a0_4 a0_5 a0_6 a0_7 t196 _ A5.out).mono ?_
     rintro e w28 ⟨rfl, hb⟩
     refine ⟨_, rfl, ?_⟩; have n0_ := Aside0.mk (blk_below (g := gb184) kA hb); have n1_ := Aside0.mk (blk_below (g := gb189) kA hb); have n2_ := Aside0.mk (blk_below (g := gb190) kA hb); have n3_ := Aside0.mk (blk_below (g := gb194) kA hb); have n4_ := Aside0.mk (below_step bA hb); clear BK184 BK189 BK190 BK194 HB; have BK184 := n0_; have BK189 := n1_; have BK190 := n2_; have BK194 := n3_; have HB := n4_; clear n0_ n1_ n2_ n3_ n4_; (try clear hb)
     refine hK.out _ _ ⟨(blk_cell BK190.out 0).trans rfl, (blk_cell BK190.out 1).trans rfl, (blk_cell BK184.out 0).trans rfl, (blk_cell BK184.out 1).trans rfl, (blk_cell BK184.out 2).trans rfl, (blk_cell BK184.out 3).trans rfl, (blk_cell BK184.out 4).trans rfl, (blk_cell BK184.out 5).trans rfl, (blk_cell BK184.out 6).trans rfl, (blk_cell BK184.out 7).trans rfl⟩ (fun hHeld => ?_)
     clear hK K
     refine norm_ (a' := ?_) ?_ ?_
     rotate_left
     ·show Act.put _ (some 28) _ = _
      simp only [Act.put, List.setIfInBounds_toArray, List.set_cons_zero, List.set_cons_succ, i64_w, i32_w]
      rfl
     refine pure_ (i := 9) (N := some 29) (v := ?_) (a' := ?_) #[true, true, true, true, true, true, true, true, true, true, false, false, false, false, false, false, false, false] rfl rfl (any_of HT_.out (by kernel_rfl)) (fun _ _ _ h => h) (Or.inl ⟨by rfl, ?_⟩) ?_ ?_
     rotate_left
     ·intro w'
      go_simp; with_reducible rfl
     rotate_left
     ·simp only [Act.put, List.setIfInBounds_toArray, List.set_cons_zero, List.set_cons_succ, i64_w, i32_w]
      rfl
     refine pure_ (i := 10) (N := some 30) (v := ?_) (a' := ?_) #[true, true, true, true, true, true, true, true, true, true, true, false, false, false, false, false, false, false] rfl rfl (any_of HT_.out (by kernel_rfl)) (fun _ _ _ h => h) (Or.inl ⟨by rfl, ?_⟩) ?_ ?_
     rotate_left
     ·intro w'
      go_simp; with_reducible rfl
     rotate_left
     ·simp only [Act.put, List.setIfInBounds_toArray, List.set_cons_zero, List.set_cons_succ, i64_w, i32_w]
      rfl
     refine two_ (i := 11) (j := 15) (Ni := some 31) (Nj := some 7) #[true, true, true, true, true, true, true, true, true, true, true, true, false, false, false, false, false, false] #[true, true, true, true, true, true, true, true, true, true, true, false, false, false, false, true, false, false] rfl rfl rfl rfl (two_of HT_.out (by kernel_rfl)) (by decide) (by decide) (fun K hK => ?_) (fun K hK => ?_)
     ·skip
      refine goes_ Tryd.func67 (by kernel_rfl) rfl #[.agg #[.int .u64 t187, .int .u64 t188], .int .u64 (IntKind.u64.wrap (wrap64 ((wrap64 (a0_3 * t195)) + t196)))] (by rfl) rfl rfl aA ?_
      with_reducible refine (wide_Times.calls t187 t188 (IntKind.u64.wrap (wrap64 ((wrap64 (a0_3 * t195)) + t196))) t197 t198 t199 _ A6.out).mono ?_
      rintro e w29 ⟨rfl, hb⟩
      refine ⟨_, rfl, ?_⟩; have n0_ := Aside0.mk (blk_below (g := gb184) kA hb); have n1_ := Aside0.mk (blk_below (g := gb189) kA hb); have n2_ := Aside0.mk (blk_below (g := gb190) kA hb); have n3_ := Aside0.mk (blk_below (g := gb194) kA hb); have n4_ := Aside0.mk (below_step bA hb); clear BK184 BK189 BK190 BK194 HB; have BK184 := n0_; have BK189 := n1_; have BK190 := n2_; have BK194 := n3_; have HB := n4_; clear n0_ n1_ n2_ n3_ n4_; (try clear hb)
      refine hK.out _ _ ⟨(blk_cell BK190.out 0).trans rfl, (blk_cell BK190.out 1).trans rfl, (blk_cell BK184.out 0).trans rfl, (blk_cell BK184.out 1).trans rfl, (blk_cell BK184.out 2).trans rfl, (blk_cell BK184.out 3).trans rfl, (blk_cell BK184.out 4).trans rfl, (blk_cell BK184.out 5).trans rfl, (blk_cell BK184.out 6).trans rfl, (blk_cell BK184.out 7).trans rfl⟩ (fun hHeld => ?_)
      clear hK K
      refine norm_ (a' := ?_) ?_ ?_
      rotate_left
      ·show Act.put _ (some 31) _ = _
       simp only [Act.put, List.setIfInBounds_toArray, List.set_cons_zero, List.set_cons_succ, i64_w, i32_w]
       rfl
      refine pure_ (i := 12) (N := some 19) (v := ?_) (a' := ?_) #[true, true, true, true, true, true, true, true, true, true, true, true, true, false, false, false, false, false] rfl rfl (any_of HT_.out (by kernel_rfl)) (fun _ _ _ h => h) (Or.inl ⟨by rfl, ?_⟩) ?_ ?_
      rotate_left
      ·intro w'
       go_simp; with_reducible rfl
      rotate_left
      ·simp only [Act.put, List.setIfInBounds_toArray, List.set_cons_zero, List.set_cons_succ, i64_w, i32_w]
       rfl
      refine pure_ (i := 13) (N := some 32) (v := ?_) (a' := ?_) #[true, true, true, true, true, true, true, true, true, true, true, true, true, true, false, false, false, false] rfl rfl (any_of HT_.out (by kernel_rfl)) (fun _ _ _ h => h) (Or.inl ⟨by rfl, ?_⟩) ?_ ?_
      rotate_left
      ·intro w'
       go_simp; with_reducible rfl
      rotate_left
      ·simp only [Act.put, List.setIfInBounds_toArray, List.set_cons_zero, List.set_cons_succ, i64_w, i32_w]
       rfl
      refine pure_ (i := 14) (N := some 33) (v := ?_) (a' := ?_) #[true, true, true, true, true, true, true, true, true, true, true, true, true, true, true, false, false, false] rfl rfl (any_of HT_.out (by kernel_rfl)) (fun _ _ _ h => h) (Or.inl ⟨by rfl, ?_⟩) ?_ ?_
      rotate_left
      ·intro w'
       go_simp; with_reducible rfl
      rotate_left
      ·simp only [Act.put, List.setIfInBounds_toArray, List.set_cons_zero, List.set_cons_succ, i64_w, i32_w]
       rfl
      refine one_ (i := 15) (N := some 7) #[true, true, true, true, true, true, true, true, true, true, true, true, true, true, true, true, false, false] rfl rfl (one_of HT_.out (by kernel_rfl)) (by decide) (fun K hK => ?_)
      refine box_step ?hg (N := 7) ?hd (cs := #[.int .u64 0, .int .u64 0]) (t := 87) ?hr ?_; (case hd => rfl); (case hg => rfl); (case hr => first | (go_simp; done) | (go_simp; rfl))
      intro gb200 hg w30 hbox hb
      have n0_ := Aside0.mk (blk_below (g := gb184) kA hb); have n1_ := Aside0.mk (blk_below (g := gb189) kA hb); have n2_ := Aside0.mk (blk_below (g := gb190) kA hb); have n3_ := Aside0.mk (blk_below (g := gb194) kA hb); have n4_ := Aside0.mk (below_step bA hb); have n5_ := Aside0.mk (hbox); have n6_ := Aside0.mk (gwA hg bA); have n7_ := Aside0.mk (gwA hg bA); have n8_ := Aside0.mk (neA (g := gb184) hg kA); have n9_ := Aside0.mk (neB (g := gb184) hg kA); have n10_ := Aside0.mk (neA (g := gb189) hg kA); have n11_ := Aside0.mk (neB (g := gb189) hg kA); have n12_ := Aside0.mk (neA (g := gb190) hg kA); have n13_ := Aside0.mk (neB (g := gb190) hg kA); have n14_ := Aside0.mk (neA (g := gb194) hg kA); have n15_ := Aside0.mk (neB (g := gb194) hg kA); clear BK184 BK189 BK190 BK194 HB; have BK184 := n0_; have BK189 := n1_; have BK190 := n2_; have BK194 := n3_; have HB := n4_; have BK200 := n5_; have GW200 := n6_; have GE200 := n7_; have NB184_200 := n8_; have NB200_184 := n9_; have NB189_200 := n10_; have NB200_189 := n11_; have NB190_200 := n12_; have NB200_190 := n13_; have NB194_200 := n14_; have NB200_194 := n15_; clear n0_ n1_ n2_ n3_ n4_ n5_ n6_ n7_ n8_ n9_ n10_ n11_ n12_ n13_ n14_ n15_ hb hbox hg
      refine hK.out _ _ ⟨(blk_cell BK190.out 0).trans rfl, (blk_cell BK190.out 1).trans rfl, (blk_cell BK184.out 0).trans rfl, (blk_cell BK184.out 1).trans rfl, (blk_cell BK184.out 2).trans rfl, (blk_cell BK184.out 3).trans rfl, (blk_cell BK184.out 4).trans rfl, (blk_cell BK184.out 5).trans rfl, (blk_cell BK184.out 6).trans rfl, (blk_cell BK184.out 7).trans rfl⟩ (fun hHeld => ?_)
      clear hK K
      refine norm_ (a' := ?_) ?_ ?_
      rotate_left
      ·show Act.put _ (some 7) _ = _
       simp only [Act.put, List.setIfInBounds_toArray, List.set_cons_zero, List.set_cons_succ, i64_w, i32_w]
       rfl
      exact norm_ (by simp only [putAll, Act.put, List.setIfInBounds_toArray, List.set_cons_zero, List.set_cons_succ]) (hCont (gb200) _ ⟨hHeld, kA, kA, kA, kA, kA, GW200.out, GE200.out, NB184_200.out, NB200_184.out, NB189_200.out, NB200_189.out, NB190_200.out, NB200_190.out, NB194_200.out, NB200_194.out, bA⟩)
     ·skip
      refine box_step ?hg (N := 7) ?hd (cs := #[.int .u64 0, .int .u64 0]) (t := 87) ?hr ?_; (case hd => rfl); (case hg => rfl); (case hr => first | (go_simp; done) | (go_simp; rfl))
      intro gb200 hg w29 hbox hb
      have n0_ := Aside0.mk (blk_below (g := gb184) kA hb); have n1_ := Aside0.mk (blk_below (g := gb189) kA hb); have n2_ := Aside0.mk (blk_below (g := gb190) kA hb); have n3_ := Aside0.mk (blk_below (g := gb194) kA hb); have n4_ := Aside0.mk (below_step bA hb); have n5_ := Aside0.mk (hbox); have n6_ := Aside0.mk (gwA hg bA); have n7_ := Aside0.mk (gwA hg bA); have n8_ := Aside0.mk (neA (g := gb184) hg kA); have n9_ := Aside0.mk (neB (g := gb184) hg kA); have n10_ := Aside0.mk (neA (g := gb189) hg kA); have n11_ := Aside0.mk (neB (g := gb189) hg kA); have n12_ := Aside0.mk (neA (g := gb190) hg kA); have n13_ := Aside0.mk (neB (g := gb190) hg kA); have n14_ := Aside0.mk (neA (g := gb194) hg kA); have n15_ := Aside0.mk (neB (g := gb194) hg kA); clear BK184 BK189 BK190 BK194 HB; have BK184 := n0_; have BK189 := n1_; have BK190 := n2_; have BK194 := n3_; have HB := n4_; have BK200 := n5_; have GW200 := n6_; have GE200 := n7_; have NB184_200 := n8_; have NB200_184 := n9_; have NB189_200 := n10_; have NB200_189 := n11_; have NB190_200 := n12_; have NB200_190 := n13_; have NB194_200 := n14_; have NB200_194 := n15_; clear n0_ n1_ n2_ n3_ n4_ n5_ n6_ n7_ n8_ n9_ n10_ n11_ n12_ n13_ n14_ n15_ hb hbox hg
      refine hK.out _ _ ⟨(blk_cell BK190.out 0).trans rfl, (blk_cell BK190.out 1).trans rfl, (blk_cell BK184.out 0).trans rfl, (blk_cell BK184.out 1).trans rfl, (blk_cell BK184.out 2).trans rfl, (blk_cell BK184.out 3).trans rfl, (blk_cell BK184.out 4).trans rfl, (blk_cell BK184.out 5).trans rfl, (blk_cell BK184.out 6).trans rfl, (blk_cell BK184.out 7).trans rfl⟩ (fun hHeld => ?_)
      clear hK K
      refine norm_ (a' := ?_) ?_ ?_
      rotate_left
      ·show Act.put _ (some 7) _ = _
       simp only [Act.put, List.setIfInBounds_toArray, List.set_cons_zero, List.set_cons_succ, i64_w, i32_w]
       rfl
      refine one_ (i := 11) (N := some 31) #[true, true, true, true, true, true, true, true, true, true, true, true, false, false, false, true, false, false] rfl rfl (one_of HT_.out (by kernel_rfl)) (by decide) (fun K hK => ?_)
      refine goes_ Tryd.func67 (by kernel_rfl) rfl #[.agg #[.int .u64 t187, .int .u64 t188], .int .u64 (IntKind.u64.wrap (wrap64 ((wrap64 (a0_3 * t195)) + t196)))] (by rfl) rfl rfl aA ?_
      with_reducible refine (wide_Times.calls t187 t188 (IntKind.u64.wrap (wrap64 ((wrap64 (a0_3 * t195)) + t196))) t197 t198 t199 _ A6.out).mono ?_
      rintro e w30 ⟨rfl, hb⟩
      refine ⟨_, rfl, ?_⟩; have n0_ := Aside0.mk (blk_below (g := gb184) kA hb); have n1_ := Aside0.mk (blk_below (g := gb189) kA hb); have n2_ := Aside0.mk (blk_below (g := gb190) kA hb); have n3_ := Aside0.mk (blk_below (g := gb194) kA hb); have n4_ := Aside0.mk (blk_below (g := gb200) kA hb); have n5_ := Aside0.mk (below_step bA hb); clear BK184 BK189 BK190 BK194 BK200 HB; have BK184 := n0_; have BK189 := n1_; have BK190 := n2_; have BK194 := n3_; have BK200 := n4_; have HB := n5_; clear n0_ n1_ n2_ n3_ n4_ n5_; (try clear hb)
      refine hK.out _ _ ⟨(blk_cell BK190.out 0).trans rfl, (blk_cell BK190.out 1).trans rfl, (blk_cell BK184.out 0).trans rfl, (blk_cell BK184.out 1).trans rfl, (blk_cell BK184.out 2).trans rfl, (blk_cell BK184.out 3).trans rfl, (blk_cell BK184.out 4).trans rfl, (blk_cell BK184.out 5).trans rfl, (blk_cell BK184.out 6).trans rfl, (blk_cell BK184.out 7).trans rfl⟩ (fun hHeld => ?_)
      clear hK K
      refine norm_ (a' := ?_) ?_ ?_
      rotate_left
      ·show Act.put _ (some 31) _ = _
       simp only [Act.put, List.setIfInBounds_toArray, List.set_cons_zero, List.set_cons_succ, i64_w, i32_w]
       rfl
      refine pure_ (i := 12) (N := some 19) (v := ?_) (a' := ?_) #[true, true, true, true, true, true, true, true, true, true, true, true, true, false, false, true, false, false] rfl rfl (any_of HT_.out (by kernel_rfl)) (fun _ _ _ h => h) (Or.inl ⟨by rfl, ?_⟩) ?_ ?_
      rotate_left
      ·intro w'
       go_simp; with_reducible rfl
      rotate_left
      ·simp only [Act.put, List.setIfInBounds_toArray, List.set_cons_zero, List.set_cons_succ, i64_w, i32_w]
       rfl
      refine pure_ (i := 13) (N := some 32) (v := ?_) (a' := ?_) #[true, true, true, true, true, true, true, true, true, true, true, true, true, true, false, true, false, false] rfl rfl (any_of HT_.out (by kernel_rfl)) (fun _ _ _ h => h) (Or.inl ⟨by rfl, ?_⟩) ?_ ?_
      rotate_left
      ·intro w'
       go_simp; with_reducible rfl
      rotate_left
      ·simp only [Act.put, List.setIfInBounds_toArray, List.set_cons_zero, List.set_cons_succ, i64_w, i32_w]
       rfl
      refine pure_ (i := 14) (N := some 33) (v := ?_) (a' := ?_) #[true, true, true, true, true, true, true, true, true, true, true, true, true, true, true, true, false, false] rfl rfl (any_of HT_.out (by kernel_rfl)) (fun _ _ _ h => h) (Or.inl ⟨by rfl, ?_⟩) ?_ ?_
      rotate_left
      ·intro w'
       go_simp; with_reducible rfl
      rotate_left
      ·simp only [Act.put, List.setIfInBounds_toArray, List.set_cons_zero, List.set_cons_succ, i64_w, i32_w]
       rfl
      exact norm_ (by simp only [putAll, Act.put, List.setIfInBounds_toArray, List.set_cons_zero, List.set_cons_succ]) (hCont (gb200) _ ⟨hHeld, kA, kA, kA, kA, kA, GW200.out, GE200.out, NB184_200.out, NB200_184.out, NB189_200.out, NB200_189.out, NB190_200.out, NB200_190.out, NB194_200.out, NB200_194.out, bA⟩)
    ·skip
     refine box_step ?hg (N := 7) ?hd (cs := #[.int .u64 0, .int .u64 0]) (t := 87) ?hr ?_; (case hd => rfl); (case hg => rfl); (case hr => first | (go_simp; done) | (go_simp; rfl))
     intro gb200 hg w28 hbox hb
     have n0_ := Aside0.mk (blk_below (g := gb184) kA hb); have n1_ := Aside0.mk (blk_below (g := gb189) kA hb); have n2_ := Aside0.mk (blk_below (g := gb190) kA hb); have n3_ := Aside0.mk (blk_below (g := gb194) kA hb); have n4_ := Aside0.mk (below_step bA hb); have n5_ := Aside0.mk (hbox); have n6_ := Aside0.mk (gwA hg bA); have n7_ := Aside0.mk (gwA hg bA); have n8_ := Aside0.mk (neA (g := gb184) hg kA); have n9_ := Aside0.mk (neB (g := gb184) hg kA); have n10_ := Aside0.mk (neA (g := gb189) hg kA); have n11_ := Aside0.mk (neB (g := gb189) hg kA); have n12_ := Aside0.mk (neA (g := gb190) hg kA); have n13_ := Aside0.mk (neB (g := gb190) hg kA); have n14_ := Aside0.mk (neA (g := gb194) hg kA); have n15_ := Aside0.mk (neB (g := gb194) hg kA); clear BK184 BK189 BK190 BK194 HB; have BK184 := n0_; have BK189 := n1_; have BK190 := n2_; have BK194 := n3_; have HB := n4_; have BK200 := n5_; have GW200 := n6_; have GE200 := n7_; have NB184_200 := n8_; have NB200_184 := n9_; have NB189_200 := n10_; have NB200_189 := n11_; have NB190_200 := n12_; have NB200_190 := n13_; have NB194_200 := n14_; have NB200_194 := n15_; clear n0_ n1_ n2_ n3_ n4_ n5_ n6_ n7_ n8_ n9_ n10_ n11_ n12_ n13_ n14_ n15_ hb hbox hg
     refine hK.out _ _ ⟨(blk_cell BK190.out 0).trans rfl, (blk_cell BK190.out 1).trans rfl, (blk_cell BK184.out 0).trans rfl, (blk_cell BK184.out 1).trans rfl, (blk_cell BK184.out 2).trans rfl, (blk_cell BK184.out 3).trans rfl, (blk_cell BK184.out 4).trans rfl, (blk_cell BK184.out 5).trans rfl, (blk_cell BK184.out 6).trans rfl, (blk_cell BK184.out 7).trans rfl⟩ (fun hHeld => ?_)
     clear hK K
     refine norm_ (a' := ?_) ?_ ?_
     rotate_left
     ·show Act.put _ (some 7) _ = _
      simp only [Act.put, List.setIfInBounds_toArray, List.set_cons_zero, List.set_cons_succ, i64_w, i32_w]
      rfl
     refine one_ (i := 8) (N := some 28) #[true, true, true, true, true, true, true, true, true, false, false, false, false, false, false, true, false, false] rfl rfl (one_of HT_.out (by kernel_rfl)) (by decide) (fun K hK => ?_)
     refine goes_ Tryd.func65 (by kernel_rfl) rfl #[.agg #[.int .i64 a0_0, .int .i64 a0_1, .int .i64 a0_2, .int .i64 a0_3, .int .i64 a0_4, .int .i64 a0_5, .int .i64 a0_6, .int .i64 a0_7]] (by rfl) rfl rfl aA ?_
     with_reducible refine (config_asked_fairSize.calls a0_0 a0_1 a0_2 a0_3 a0_4 a0_5 a0_6 a0_7 t196 _ A5.out).mono ?_
     rintro e w29 ⟨rfl, hb⟩
     refine ⟨_, rfl, ?_⟩; have n0_ := Aside0.mk (blk_below (g := gb184) kA hb); have n1_ := Aside0.mk (blk_below (g := gb189) kA hb); have n2_ := Aside0.mk (blk_below (g := gb190) kA hb); have n3_ := Aside0.mk (blk_below (g := gb194) kA hb); have n4_ := Aside0.mk (blk_below (g := gb200) kA hb); have n5_ := Aside0.mk (below_step bA hb); clear BK184 BK189 BK190 BK194 BK200 HB; have BK184 := n0_; have BK189 := n1_; have BK190 := n2_; have BK194 := n3_; have BK200 := n4_; have HB := n5_; clear n0_ n1_ n2_ n3_ n4_ n5_; (try clear hb)
     refine hK.out _ _ ⟨(blk_cell BK190.out 0).trans rfl, (blk_cell BK190.out 1).trans rfl, (blk_cell BK184.out 0).trans rfl, (blk_cell BK184.out 1).trans rfl, (blk_cell BK184.out 2).trans rfl, (blk_cell BK184.out 3).trans rfl, (blk_cell BK184.out 4).trans rfl, (blk_cell BK184.out 5).trans rfl, (blk_cell BK184.out 6).trans rfl, (blk_cell BK184.out 7).trans rfl⟩ (fun hHeld => ?_)
     clear hK K
     refine norm_ (a' := ?_) ?_ ?_
     rotate_left
     ·show Act.put _ (some 28) _ = _
      simp only [Act.put, List.setIfInBounds_toArray, List.set_cons_zero, List.set_cons_succ, i64_w, i32_w]
      rfl
     refine pure_ (i := 9) (N := some 29) (v := ?_) (a' := ?_) #[true, true, true, true, true, true, true, true, true, true, false, false, false, false, false, true, false, false] rfl rfl (any_of HT_.out (by kernel_rfl)) (fun _ _ _ h => h) (Or.inl ⟨by rfl, ?_⟩) ?_ ?_
     rotate_left
     ·intro w'
      go_simp; with_reducible rfl
     rotate_left
     ·simp only [Act.put, List.setIfInBounds_toArray, List.set_cons_zero, List.set_cons_succ, i64_w, i32_w]
      rfl
     refine pure_ (i := 10) (N := some 30) (v := ?_) (a' := ?_) #[true, true, true, true, true, true, true, true, true, true, true, false, false, false, false, true, false, false] rfl rfl (any_of HT_.out (by kernel_rfl)) (fun _ _ _ h => h) (Or.inl ⟨by rfl, ?_⟩) ?_ ?_
     rotate_left
     ·intro w'
      go_simp; with_reducible rfl
     rotate_left
     ·simp only [Act.put, List.setIfInBounds_toArray, List.set_cons_zero, List.set_cons_succ, i64_w, i32_w]
      rfl
     refine one_ (i := 11) (N := some 31) #[true, true, true, true, true, true, true, true, true, true, true, true, false, false, false, true, false, false] rfl rfl (one_of HT_.out (by kernel_rfl)) (by decide) (fun K hK => ?_)
     refine goes_ Tryd.func67 (by kernel_rfl) rfl #[.agg #[.int .u64 t187, .int .u64 t188], .int .u64 (IntKind.u64.wrap (wrap64 ((wrap64 (a0_3 * t195)) + t196)))] (by rfl) rfl rfl aA ?_
     with_reducible refine (wide_Times.calls t187 t188 (IntKind.u64.wrap (wrap64 ((wrap64 (a0_3 * t195)) + t196))) t197 t198 t199 _ A6.out).mono ?_
     rintro e w30 ⟨rfl, hb⟩
     refine ⟨_, rfl, ?_⟩; have n0_ := Aside0.mk (blk_below (g := gb184) kA hb); have n1_ := Aside0.mk (blk_below (g := gb189) kA hb); have n2_ := Aside0.mk (blk_below (g := gb190) kA hb); have n3_ := Aside0.mk (blk_below (g := gb194) kA hb); have n4_ := Aside0.mk (blk_below (g := gb200) kA hb); have n5_ := Aside0.mk (below_step bA hb); clear BK184 BK189 BK190 BK194 BK200 HB; have BK184 := n0_; have BK189 := n1_; have BK190 := n2_; have BK194 := n3_; have BK200 := n4_; have HB := n5_; clear n0_ n1_ n2_ n3_ n4_ n5_; (try clear hb)
     refine hK.out _ _ ⟨(blk_cell BK190.out 0).trans rfl, (blk_cell BK190.out 1).trans rfl, (blk_cell BK184.out 0).trans rfl, (blk_cell BK184.out 1).trans rfl, (blk_cell BK184.out 2).trans rfl, (blk_cell BK184.out 3).trans rfl, (blk_cell BK184.out 4).trans rfl, (blk_cell BK184.out 5).trans rfl, (blk_cell BK184.out 6).trans rfl, (blk_cell BK184.out 7).trans rfl⟩ (fun hHeld => ?_)
     clear hK K
     refine norm_ (a' := ?_) ?_ ?_
     rotate_left
     ·show Act.put _ (some 31) _ = _
      simp only [Act.put, List.setIfInBounds_toArray, List.set_cons_zero, List.set_cons_succ, i64_w, i32_w]
      rfl
     refine pure_ (i := 12) (N := some 19) (v := ?_) (a' := ?_) #[true, true, true, true, true, true, true, true, true, true, true, true, true, false, false, true, false, false] rfl rfl (any_of HT_.out (by kernel_rfl)) (fun _ _ _ h => h) (Or.inl ⟨by rfl, ?_⟩) ?_ ?_
     rotate_left
     ·intro w'
      go_simp; with_reducible rfl
     rotate_left
     ·simp only [Act.put, List.setIfInBounds_toArray, List.set_cons_zero, List.set_cons_succ, i64_w, i32_w]
      rfl
     refine pure_ (i := 13) (N := some 32) (v := ?_) (a' := ?_) #[true, true, true, true, true, true, true, true, true, true, true, true, true, true, false, true, false, false] rfl rfl (any_of HT_.out (by kernel_rfl)) (fun _ _ _ h => h) (Or.inl ⟨by rfl, ?_⟩) ?_ ?_
     rotate_left
     ·intro w'
      go_simp; with_reducible rfl
     rotate_left
     ·simp only [Act.put, List.setIfInBounds_toArray, List.set_cons_zero, List.set_cons_succ, i64_w, i32_w]
      rfl
     refine pure_ (i := 14) (N := some 33) (v := ?_) (a' := ?_) #[true, true, true, true, true, true, true, true, true, true, true, true, true, true, true, true, false, false] rfl rfl (any_of HT_.out (by kernel_rfl)) (fun _ _ _ h => h) (Or.inl ⟨by rfl, ?_⟩) ?_ ?_
     rotate_left
     ·intro w'
      go_simp; with_reducible rfl
     rotate_left
     ·simp only [Act.put, List.setIfInBounds_toArray, List.set_cons_zero, List.set_cons_succ, i64_w, i32_w]
      rfl
     exact norm_ (by simp only [putAll, Act.put, List.setIfInBounds_toArray, List.set_cons_zero, List.set_cons_succ]) (hCont (gb200) _ ⟨hHeld, kA, kA, kA, kA, kA, GW200.out, GE200.out, NB184_200.out, NB200_184.out, NB189_200.out, NB200_189.out, NB190_200.out, NB200_190.out, NB194_200.out, NB200_194.out, bA⟩)
   ·skip
    refine box_step ?hg (N := 7) ?hd (cs := #[.int .u64 0, .int .u64 0]) (t := 87) ?hr ?_; (case hd => rfl); (case hg => rfl); (case hr => first | (go_simp; done) | (go_simp; rfl))
    intro gb200 hg w27 hbox hb
    have n0_ := Aside0.mk (blk_below (g := gb184) kA hb); have n1_ := Aside0.mk (blk_below (g := gb189) kA hb); have n2_ := Aside0.mk (blk_below (g := gb190) kA hb); have n3_ := Aside0.mk (blk_below (g := gb194) kA hb); have n4_ := Aside0.mk (below_step bA hb); have n5_ := Aside0.mk (hbox); have n6_ := Aside0.mk (gwA hg bA); have n7_ := Aside0.mk (gwA hg bA); have n8_ := Aside0.mk (neA (g := gb184) hg kA); have n9_ := Aside0.mk (neB (g := gb184) hg kA); have n10_ := Aside0.mk (neA (g := gb189) hg kA); have n11_ := Aside0.mk (neB (g := gb189) hg kA); have n12_ := Aside0.mk (neA (g := gb190) hg kA); have n13_ := Aside0.mk (neB (g := gb190) hg kA); have n14_ := Aside0.mk (neA (g := gb194) hg kA); have n15_ := Aside0.mk (neB (g := gb194) hg kA); clear BK184 BK189 BK190 BK194 HB; have BK184 := n0_; have BK189 := n1_; have BK190 := n2_; have BK194 := n3_; have HB := n4_; have BK200 := n5_; have GW200 := n6_; have GE200 := n7_; have NB184_200 := n8_; have NB200_184 := n9_; have NB189_200 := n10_; have NB200_189 := n11_; have NB190_200 := n12_; have NB200_190 := n13_; have NB194_200 := n14_; have NB200_194 := n15_; clear n0_ n1_ n2_ n3_ n4_ n5_ n6_ n7_ n8_ n9_ n10_ n11_ n12_ n13_ n14_ n15_ hb hbox hg
    refine hK.out _ _ ⟨(blk_cell BK190.out 0).trans rfl, (blk_cell BK190.out 1).trans rfl, (blk_cell BK184.out 0).trans rfl, (blk_cell BK184.out 1).trans rfl, (blk_cell BK184.out 2).trans rfl, (blk_cell BK184.out 3).trans rfl, (blk_cell BK184.out 4).trans rfl, (blk_cell BK184.out 5).trans rfl, (blk_cell BK184.out 6).trans rfl, (blk_cell BK184.out 7).trans rfl⟩ (fun hHeld => ?_)
    clear hK K
    refine norm_ (a' := ?_) ?_ ?_
    rotate_left
    ·show Act.put _ (some 7) _ = _
     simp only [Act.put, List.setIfInBounds_toArray, List.set_cons_zero, List.set_cons_succ, i64_w, i32_w]
     rfl
    refine one_ (i := 5) (N := some 25) #[true, true, true, true, true, true, false, true, false, false, false, false, false, false, false, true, false, false] rfl rfl (one_of HT_.out (by kernel_rfl)) (by decide) (fun K hK => ?_)
    refine goes_ Tryd.func68 (by kernel_rfl) rfl #[.agg #[.int .i64 a0_0, .int .i64 a0_1, .int .i64 a0_2, .int .i64 a0_3, .int .i64 a0_4, .int .i64 a0_5, .int .i64 a0_6, .int .i64 a0_7]] (by rfl) rfl rfl aA ?_
    with_reducible refine (config_asked_bound.calls a0_0 a0_1 a0_2 a0_3 a0_4 a0_5 a0_6 a0_7 t195 _ A4.out).mono ?_
    rintro e w28 ⟨rfl, hb⟩
    refine ⟨_, rfl, ?_⟩; have n0_ := Aside0.mk (blk_below (g := gb184) kA hb); have n1_ := Aside0.mk (blk_below (g := gb189) kA hb); have n2_ := Aside0.mk (blk_below (g := gb190) kA hb); have n3_ := Aside0.mk (blk_below (g := gb194) kA hb); have n4_ := Aside0.mk (blk_below (g := gb200) kA hb); have n5_ := Aside0.mk (below_step bA hb); clear BK184 BK189 BK190 BK194 BK200 HB; have BK184 := n0_; have BK189 := n1_; have BK190 := n2_; have BK194 := n3_; have BK200 := n4_; have HB := n5_; clear n0_ n1_ n2_ n3_ n4_ n5_; (try clear hb)
    refine hK.out _ _ ⟨(blk_cell BK190.out 0).trans rfl, (blk_cell BK190.out 1).trans rfl, (blk_cell BK184.out 0).trans rfl, (blk_cell BK184.out 1).trans rfl, (blk_cell BK184.out 2).trans rfl, (blk_cell BK184.out 3).trans rfl, (blk_cell BK184.out 4).trans rfl, (blk_cell BK184.out 5).trans rfl, (blk_cell BK184.out 6).trans rfl, (blk_cell BK184.out 7).trans rfl⟩ (fun hHeld => ?_)
    clear hK K
    refine norm_ (a' := ?_) ?_ ?_
    rotate_left
    ·show Act.put _ (some 25) _ = _
     simp only [Act.put, List.setIfInBounds_toArray, List.set_cons_zero, List.set_cons_succ, i64_w, i32_w]
     rfl
    refine pure_ (i := 6) (N := some 26) (v := ?_) (a' := ?_) #[true, true, true, true, true, true, true, true, false, false, false, false, false, false, false, true, false, false] rfl rfl (any_of HT_.out (by kernel_rfl)) (fun _ _ _ h => h) (Or.inl ⟨by rfl, ?_⟩) ?_ ?_
    rotate_left
    ·intro w'
     go_simp; with_reducible rfl
    rotate_left
    ·simp only [Act.put, List.setIfInBounds_toArray, List.set_cons_zero, List.set_cons_succ, i64_w, i32_w]
     rfl
    refine one_ (i := 8) (N := some 28) #[true, true, true, true, true, true, true, true, true, false, false, false, false, false, false, true, false, false] rfl rfl (one_of HT_.out (by kernel_rfl)) (by decide) (fun K hK => ?_)
    refine goes_ Tryd.func65 (by kernel_rfl) rfl #[.agg #[.int .i64 a0_0, .int .i64 a0_1, .int .i64 a0_2, .int .i64 a0_3, .int .i64 a0_4, .int .i64 a0_5, .int .i64 a0_6, .int .i64 a0_7]] (by rfl) rfl rfl aA ?_
    with_reducible refine (config_asked_fairSize.calls a0_0 a0_1 a0_2 a0_3 a0_4 a0_5 a0_6 a0_7 t196 _ A5.out).mono ?_
    rintro e w29 ⟨rfl, hb⟩
    refine ⟨_, rfl, ?_⟩; have n0_ := Aside0.mk (blk_below (g := gb184) kA hb); have n1_ := Aside0.mk (blk_below (g := gb189) kA hb); have n2_ := Aside0.mk (blk_below (g := gb190) kA hb); have n3_ := Aside0.mk (blk_below (g := gb194) kA hb); have n4_ := Aside0.mk (blk_below (g := gb200) kA hb); have n5_ := Aside0.mk (below_step bA hb); clear BK184 BK189 BK190 BK194 BK200 HB; have BK184 := n0_; have BK189 := n1_; have BK190 := n2_; have BK194 := n3_; have BK200 := n4_; have HB := n5_; clear n0_ n1_ n2_ n3_ n4_ n5_; (try clear hb)
    refine hK.out _ _ ⟨(blk_cell BK190.out 0).trans rfl, (blk_cell BK190.out 1).trans rfl, (blk_cell BK184.out 0).trans rfl, (blk_cell BK184.out 1).trans rfl, (blk_cell BK184.out 2).trans rfl, (blk_cell BK184.out 3).trans rfl, (blk_cell BK184.out 4).trans rfl, (blk_cell BK184.out 5).trans rfl, (blk_cell BK184.out 6).trans rfl, (blk_cell BK184.out 7).trans rfl⟩ (fun hHeld => ?_)
    clear hK K
    refine norm_ (a' := ?_) ?_ ?_
    rotate_left
    ·show Act.put _ (some 28) _ = _
     simp only [Act.put, List.setIfInBounds_toArray, List.set_cons_zero, List.set_cons_succ, i64_w, i32_w]
     rfl
    refine pure_ (i := 9) (N := some 29) (v := ?_) (a' := ?_) #[true, true, true, true, true, true, true, true, true, true, false, false, false, false, false, true, false, false] rfl rfl (any_of HT_.out (by kernel_rfl)) (fun _ _ _ h => h) (Or.inl ⟨by rfl, ?_⟩) ?_ ?_
    rotate_left
    ·intro w'
     go_simp; with_reducible rfl
    rotate_left
    ·simp only [Act.put, List.setIfInBounds_toArray, List.set_cons_zero, List.set_cons_succ, i64_w, i32_w]
     rfl
    refine pure_ (i := 10) (N := some 30) (v := ?_) (a' := ?_) #[true, true, true, true, true, true, true, true, true, true, true, false, false, false, false, true, false, false] rfl rfl (any_of HT_.out (by kernel_rfl)) (fun _ _ _ h => h) (Or.inl ⟨by rfl, ?_⟩) ?_ ?_
    rotate_left
    ·intro w'
     go_simp; with_reducible rfl
    rotate_left
    ·simp only [Act.put, List.setIfInBounds_toArray, List.set_cons_zero, List.set_cons_succ, i64_w, i32_w]
     rfl
    refine one_ (i := 11) (N := some 31) #[true, true, true, true, true, true, true, true, true, true, true, true, false, false, false, true, false, false] rfl rfl (one_of HT_.out (by kernel_rfl)) (by decide) (fun K hK => ?_)
    refine goes_ Tryd.func67 (by kernel_rfl) rfl #[.agg #[.int .u64 t187, .int .u64 t188], .int .u64 (IntKind.u64.wrap (wrap64 ((wrap64 (a0_3 * t195)) + t196)))] (by rfl) rfl rfl aA ?_
    with_reducible refine (wide_Times.calls t187 t188 (IntKind.u64.wrap (wrap64 ((wrap64 (a0_3 * t195)) + t196))) t197 t198 t199 _ A6.out).mono ?_
    rintro e w30 ⟨rfl, hb⟩
    refine ⟨_, rfl, ?_⟩; have n0_ := Aside0.mk (blk_below (g := gb184) kA hb); have n1_ := Aside0.mk (blk_below (g := gb189) kA hb); have n2_ := Aside0.mk (blk_below (g := gb190) kA hb); have n3_ := Aside0.mk (blk_below (g := gb194) kA hb); have n4_ := Aside0.mk (blk_below (g := gb200) kA hb); have n5_ := Aside0.mk (below_step bA hb); clear BK184 BK189 BK190 BK194 BK200 HB; have BK184 := n0_; have BK189 := n1_; have BK190 := n2_; have BK194 := n3_; have BK200 := n4_; have HB := n5_; clear n0_ n1_ n2_ n3_ n4_ n5_; (try clear hb)
    refine hK.out _ _ ⟨(blk_cell BK190.out 0).trans rfl, (blk_cell BK190.out 1).trans rfl, (blk_cell BK184.out 0).trans rfl, (blk_cell BK184.out 1).trans rfl, (blk_cell BK184.out 2).trans rfl, (blk_cell BK184.out 3).trans rfl, (blk_cell BK184.out 4).trans rfl, (blk_cell BK184.out 5).trans rfl, (blk_cell BK184.out 6).trans rfl, (blk_cell BK184.out 7).trans rfl⟩ (fun hHeld => ?_)
    clear hK K
    refine norm_ (a' := ?_) ?_ ?_
    rotate_left
    ·show Act.put _ (some 31) _ = _
     simp only [Act.put, List.setIfInBounds_toArray, List.set_cons_zero, List.set_cons_succ, i64_w, i32_w]
     rfl
    refine pure_ (i := 12) (N := some 19) (v := ?_) (a' := ?_) #[true, true, true, true, true, true, true, true, true, true, true, true, true, false, false, true, false, false] rfl rfl (any_of HT_.out (by kernel_rfl)) (fun _ _ _ h => h) (Or.inl ⟨by rfl, ?_⟩) ?_ ?_
    rotate_left
    ·intro w'
     go_simp; with_reducible rfl
    rotate_left
    ·simp only [Act.put, List.setIfInBounds_toArray, List.set_cons_zero, List.set_cons_succ, i64_w, i32_w]
     rfl
    refine pure_ (i := 13) (N := some 32) (v := ?_) (a' := ?_) #[true, true, true, true, true, true, true, true, true, true, true, true, true, true, false, true, false, false] rfl rfl (any_of HT_.out (by kernel_rfl)) (fun _ _ _ h => h) (Or.inl ⟨by rfl, ?_⟩) ?_ ?_
    rotate_left
    ·intro w'
     go_simp; with_reducible rfl
    rotate_left
    ·simp only [Act.put, List.setIfInBounds_toArray, List.set_cons_zero, List.set_cons_succ, i64_w, i32_w]
     rfl
    refine pure_ (i := 14) (N := some 33) (v := ?_) (a' := ?_) #[true, true, true, true, true, true, true, true, true, true, true, true, true, true, true, true, false, false] rfl rfl (any_of HT_.out (by kernel_rfl)) (fun _ _ _ h => h) (Or.inl ⟨by rfl, ?_⟩) ?_ ?_
    rotate_left
    ·intro w'
     go_simp; with_reducible rfl
    rotate_left
    ·simp only [Act.put, List.setIfInBounds_toArray, List.set_cons_zero, List.set_cons_succ, i64_w, i32_w]
     rfl
    exact norm_ (by simp only [putAll, Act.put, List.setIfInBounds_toArray, List.set_cons_zero, List.set_cons_succ]) (hCont (gb200) _ ⟨hHeld, kA, kA, kA, kA, kA, GW200.out, GE200.out, NB184_200.out, NB200_184.out, NB189_200.out, NB200_189.out, NB190_200.out, NB200_190.out, NB194_200.out, NB200_194.out, bA⟩)
  rintro gb200 w31 ⟨hS_, h0_, h1_, h2_, h3_, h4_, h5_, h6_, h7_, h8_, h9_, h10_, h11_, h12_, h13_, h14_, h15_⟩
  have n0_ : Aside0 (w31.heap[gb184]? = some (.cells #[.int .i64 a0_0, .int .i64 a0_1, .int .i64 a0_2, .int .i64 a0_3, .int .i64 a0_4, .int .i64 a0_5, .int .i64 a0_6, .int .i64 a0_7] 77 (0, 0))) := ⟨h0_⟩
  have n1_ : Aside0 (w31.heap[gb189]? = some (.cells #[.int .u64 t185, .int .u64 t186] 87 (0, 0))) := ⟨h1_⟩
  have n2_ : Aside0 (w31.heap[gb190]? = some (.cells #[.int .u64 t187, .int .u64 t188] 87 (0, 0))) := ⟨h2_⟩
  have n3_ : Aside0 (w31.heap[gb194]? = some (.cells #[.int .u64 t191, .int .u64 t192] 87 (0, 0))) := ⟨h3_⟩
  have n4_ : Aside0 (w31.heap[gb200]? = some (.cells #[.int .u64 0, .int .u64 0] 87 (0, 0))) := ⟨h4_⟩
  have n5_ : Aside0 (w.heap.size ≤ gb200) := ⟨h5_⟩
  have n6_ : Aside0 (w.heap.size ≤ gb200) := ⟨h6_⟩
  have n7_ : Aside0 (gb184 ≠ gb200) := ⟨h7_⟩
  have n8_ : Aside0 (gb200 ≠ gb184) := ⟨h8_⟩
  have n9_ : Aside0 (gb189 ≠ gb200) := ⟨h9_⟩
  have n10_ : Aside0 (gb200 ≠ gb189) := ⟨h10_⟩
  have n11_ : Aside0 (gb190 ≠ gb200) := ⟨h11_⟩
  have n12_ : Aside0 (gb200 ≠ gb190) := ⟨h12_⟩
  have n13_ : Aside0 (gb194 ≠ gb200) := ⟨h13_⟩
  have n14_ : Aside0 (gb200 ≠ gb194) := ⟨h14_⟩
  have n15_ : Aside0 (Below w.heap.size w w31) := ⟨h15_⟩
  clear BK184 BK189 BK190 BK194 HB h0_ h1_ h2_ h3_ h4_ h5_ h6_ h7_ h8_ h9_ h10_ h11_ h12_ h13_ h14_ h15_; have BK184 := n0_; have BK189 := n1_; have BK190 := n2_; have BK194 := n3_; have BK200 := n4_; have GW200 := n5_; have GE200 := n6_; have NB184_200 := n7_; have NB200_184 := n8_; have NB189_200 := n9_; have NB200_189 := n10_; have NB190_200 := n11_; have NB200_190 := n12_; have NB194_200 := n13_; have NB200_194 := n14_; have HB := n15_; clear n0_ n1_ n2_ n3_ n4_ n5_ n6_ n7_ n8_ n9_ n10_ n11_ n12_ n13_ n14_ n15_
  have hHeld : w31.cell? ⟨gb190, 0, none⟩ = some (.int .u64 t187) ∧ w31.cell? ⟨gb190, 1, none⟩ = some (.int .u64 t188) ∧ w31.cell? ⟨gb184, 0, none⟩ = some (.int .i64 a0_0) ∧ w31.cell? ⟨gb184, 1, none⟩ = some (.int .i64 a0_1) ∧ w31.cell? ⟨gb184, 2, none⟩ = some (.int .i64 a0_2) ∧ w31.cell? ⟨gb184, 3, none⟩ = some (.int .i64 a0_3) ∧ w31.cell? ⟨gb184, 4, none⟩ = some (.int .i64 a0_4) ∧ w31.cell? ⟨gb184, 5, none⟩ = some (.int .i64 a0_5) ∧ w31.cell? ⟨gb184, 6, none⟩ = some (.int .i64 a0_6) ∧ w31.cell? ⟨gb184, 7, none⟩ = some (.int .i64 a0_7) := hS_
  refine norm_ (a' := ?_) ?_ ?_
  rotate_left
  ·simp only [putAll, Act.put, List.setIfInBounds_toArray, List.set_cons_zero, List.set_cons_succ]
   rfl
  refine one_ (i := 16) (N := none) #[true, true, true, true, true, true, true, true, true, true, true, true, true, true, true, true, true, false] rfl rfl (one_of HT_.out (by kernel_rfl)) (by decide) (fun K hK => ?_)
  have hs32 : w31.cell? ⟨gb200, 0, none⟩ = some (.int .u64 0) := (blk_cell BK200.out 0).trans rfl
  have hfs32 := blk_frozen BK200.out 0
  have hns32_0 := NB184_200.out
  have hns32_1 := NB189_200.out
  have hns32_2 := NB190_200.out
  have hns32_3 := NB194_200.out
  have hms32_0 := NB200_184.out
  have hms32_1 := NB200_189.out
  have hms32_2 := NB200_190.out
  have hms32_3 := NB200_194.out
  have hs33 : w31.cell? ⟨gb200, 1, none⟩ = some (.int .u64 0) := (blk_cell BK200.out 1).trans rfl
  have hfs33 := blk_frozen BK200.out 1
  have hns33_0 := NB184_200.out
  have hns33_1 := NB189_200.out
  have hns33_2 := NB190_200.out
  have hns33_3 := NB194_200.out
  have hms33_0 := NB200_184.out
  have hms33_1 := NB200_189.out
  have hms33_2 := NB200_190.out
  have hms33_3 := NB200_194.out
  refine skip_ (w1 := ?_) (by rfl) rfl ?_ ?_
  rotate_left
  ·go_simp
   rfl
  refine hK.out _ _ ⟨((cell_far (p := ⟨gb200, _, none⟩) NB190_200.out _).trans (((cell_far (p := ⟨gb200, _, none⟩) NB190_200.out _).trans (hHeld.1)))), ((cell_far (p := ⟨gb200, _, none⟩) NB190_200.out _).trans (((cell_far (p := ⟨gb200, _, none⟩) NB190_200.out _).trans (hHeld.2.1)))), ((cell_far (p := ⟨gb200, _, none⟩) NB184_200.out _).trans (((cell_far (p := ⟨gb200, _, none⟩) NB184_200.out _).trans (hHeld.2.2.1)))), ((cell_far (p := ⟨gb200, _, none⟩) NB184_200.out _).trans (((cell_far (p := ⟨gb200, _, none⟩) NB184_200.out _).trans (hHeld.2.2.2.1)))), ((cell_far (p := ⟨gb200, _, none⟩) NB184_200.out _).trans (((cell_far (p := ⟨gb200, _, none⟩) NB184_200.out _).trans (hHeld.2.2.2.2.1)))), ((cell_far (p := ⟨gb200, _, none⟩) NB184_200.out _).trans (((cell_far (p := ⟨gb200, _, none⟩) NB184_200.out _).trans (hHeld.2.2.2.2.2.1)))), ((cell_far (p := ⟨gb200, _, none⟩) NB184_200.out _).trans (((cell_far (p := ⟨gb200, _, none⟩) NB184_200.out _).trans (hHeld.2.2.2.2.2.2.1)))), ((cell_far (p := ⟨gb200, _, none⟩) NB184_200.out _).trans (((cell_far (p := ⟨gb200, _, none⟩) NB184_200.out _).trans (hHeld.2.2.2.2.2.2.2.1)))), ((cell_far (p := ⟨gb200, _, none⟩) NB184_200.out _).trans (((cell_far (p := ⟨gb200, _, none⟩) NB184_200.out _).trans (hHeld.2.2.2.2.2.2.2.2.1)))), ((cell_far (p := ⟨gb200, _, none⟩) NB184_200.out _).trans (((cell_far (p := ⟨gb200, _, none⟩) NB184_200.out _).trans (hHeld.2.2.2.2.2.2.2.2.2))))⟩ (fun hHeld => ?_)
  clear hK K
  refine pure_ (i := 17) (N := some 8) (v := ?_) (a' := ?_) #[true, true, true, true, true, true, true, true, true, true, true, true, true, true, true, true, true, true] rfl rfl (any_of HT_.out (by kernel_rfl)) (fun _ _ _ h => h) (Or.inl ⟨by rfl, ?_⟩) ?_ ?_
  rotate_left
  ·intro w'
   go_simp; with_reducible rfl
  rotate_left
  ·simp only [Act.put, List.setIfInBounds_toArray, List.set_cons_zero, List.set_cons_succ, i64_w, i32_w]
   rfl
  refine done_ (done_of HT_.out (by kernel_rfl)) ?_
  have hnb34 := NB194_200.out
  have hnc34 := NB200_194.out
  have hcz35_0 : w31.cell? ⟨gb194, 0, none⟩ = some (.int .u64 t191) := (blk_cell BK194.out 0).trans rfl
  have hcz35_1 : w31.cell? ⟨gb194, 1, none⟩ = some (.int .u64 t192) := (blk_cell BK194.out 1).trans rfl
  have hfz35_0 := blk_frozen BK194.out 0
  have hfz35_1 := blk_frozen BK194.out 1
  have hnb36 := NB200_184.out
  have hnc36 := NB184_200.out
  have hnb37 := NB200_189.out
  have hnc37 := NB189_200.out
  have hnb38 := NB200_190.out
  have hnc38 := NB190_200.out
  have hcz39_0 : w31.cell? ⟨gb200, 0, none⟩ = some (.int .u64 0) := (blk_cell BK200.out 0).trans rfl
  have hcz39_1 : w31.cell? ⟨gb200, 1, none⟩ = some (.int .u64 0) := (blk_cell BK200.out 1).trans rfl
  have hfz39_0 := blk_frozen BK200.out 0
  have hfz39_1 := blk_frozen BK200.out 1
  try go_wp2_with (first | ((with_reducible refine gate_callee (f := 69) rfl ?_); refine goesL_ (some 36) rfl rfl Tryd.func69 (by kernel_rfl) rfl #[.agg #[.int .u64 t191, .int .u64 t192], .agg #[.int .u64 t197, .int .u64 t198]] rfl aA ?_; (with_reducible refine (wide_Cmp.calls t191 t192 t197 t198 t201 _ A7.out).mono ?_); rintro e w40 ⟨rfl, hb⟩; refine ⟨_, rfl, ?_⟩; have n0_ := Aside0.mk (blk_below (g := gb184) (o := .cells #[.int .i64 a0_0, .int .i64 a0_1, .int .i64 a0_2, .int .i64 a0_3, .int .i64 a0_4, .int .i64 a0_5, .int .i64 a0_6, .int .i64 a0_7] 77 (0, 0)) (by (with_reducible repeat (first | refine blk_drewN ?_ _ | refine blk_drew ?_ | refine blk_alloc ?_ _)); refine blk_far ?_ NB184_200.out _; (with_reducible repeat (first | refine blk_drewN ?_ _ | refine blk_drew ?_ | refine blk_alloc ?_ _)); refine blk_far ?_ NB184_200.out _; exact kA) hb); have n1_ := Aside0.mk (blk_below (g := gb189) (o := .cells #[.int .u64 t185, .int .u64 t186] 87 (0, 0)) (by (with_reducible repeat (first | refine blk_drewN ?_ _ | refine blk_drew ?_ | refine blk_alloc ?_ _)); refine blk_far ?_ NB189_200.out _; (with_reducible repeat (first | refine blk_drewN ?_ _ | refine blk_drew ?_ | refine blk_alloc ?_ _)); refine blk_far ?_ NB189_200.out _; exact kA) hb); have n2_ := Aside0.mk (blk_below (g := gb190) (o := .cells #[.int .u64 t187, .int .u64 t188] 87 (0, 0)) (by (with_reducible repeat (first | refine blk_drewN ?_ _ | refine blk_drew ?_ | refine blk_alloc ?_ _)); refine blk_far ?_ NB190_200.out _; (with_reducible repeat (first | refine blk_drewN ?_ _ | refine blk_drew ?_ | refine blk_alloc ?_ _)); refine blk_far ?_ NB190_200.out _; exact kA) hb); have n3_ := Aside0.mk (blk_below (g := gb194) (o := .cells #[.int .u64 t191, .int .u64 t192] 87 (0, 0)) (by (with_reducible repeat (first | refine blk_drewN ?_ _ | refine blk_drew ?_ | refine blk_alloc ?_ _)); refine blk_far ?_ NB194_200.out _; (with_reducible repeat (first | refine blk_drewN ?_ _ | refine blk_drew ?_ | refine blk_alloc ?_ _)); refine blk_far ?_ NB194_200.out _; exact kA) hb); have n4_ := Aside0.mk (blk_below (g := gb200) (o := .cells #[.int .u64 t197, .int .u64 t198] 87 (0, 0)) (by (with_reducible repeat (first | refine blk_drewN ?_ _ | refine blk_drew ?_ | refine blk_alloc ?_ _)); refine blk_put (cs := #[.int .u64 t197, .int .u64 0]) ?_ 1 _ rfl; (with_reducible repeat (first | refine blk_drewN ?_ _ | refine blk_drew ?_ | refine blk_alloc ?_ _)); refine blk_put (cs := #[.int .u64 0, .int .u64 0]) ?_ 0 _ rfl; exact kA) hb); have n5_ := Aside0.mk (below_step bA hb); clear BK184 BK189 BK190 BK194 BK200 HB; have BK184 := n0_; have BK189 := n1_; have BK190 := n2_; have BK194 := n3_; have BK200 := n4_; have HB := n5_; clear n0_ n1_ n2_ n3_ n4_ n5_; (try clear hb)))
  go_ret
  exact ⟨by first | rfl | (simp [errW_none, errW_some] <;> rfl) | (simp [*, errW_none, errW_some] <;> rfl), bA⟩
 ·rw [if_neg c8] at H
  have c8b0 : decide (0 < t201) = false := decide_eq_false c8
  clear c8
  obtain rfl := Option.some.inj H
  go_enter Tryd.func43, Tryd.ntmps43
  try go_wp2_with (first | ((with_reducible refine gate_dst (N := 1) rfl ?_); refine bxA 1 #[.int .i64 a0_0, .int .i64 a0_1, .int .i64 a0_2, .int .i64 a0_3, .int .i64 a0_4, .int .i64 a0_5, .int .i64 a0_6, .int .i64 a0_7] 77 ?_; intro gb184 hg w41 hbox hb; have n0_ := Aside0.mk (below_step bA hb); have n1_ := Aside0.mk (hbox); have n2_ := Aside0.mk (gwA hg bA); have n3_ := Aside0.mk (gwA hg bA); clear HB; have HB := n0_; have BK184 := n1_; have GW184 := n2_; have GE184 := n3_; clear n0_ n1_ n2_ n3_ hb hbox hg; have hcz42_0 : w41.cell? ⟨gb184, 0, none⟩ = some (.int .i64 a0_0) := (blk_cell BK184.out 0).trans rfl; have hcz42_1 : w41.cell? ⟨gb184, 1, none⟩ = some (.int .i64 a0_1) := (blk_cell BK184.out 1).trans rfl; have hcz42_2 : w41.cell? ⟨gb184, 2, none⟩ = some (.int .i64 a0_2) := (blk_cell BK184.out 2).trans rfl; have hcz42_3 : w41.cell? ⟨gb184, 3, none⟩ = some (.int .i64 a0_3) := (blk_cell BK184.out 3).trans rfl; have hcz42_4 : w41.cell? ⟨gb184, 4, none⟩ = some (.int .i64 a0_4) := (blk_cell BK184.out 4).trans rfl; have hcz42_5 : w41.cell? ⟨gb184, 5, none⟩ = some (.int .i64 a0_5) := (blk_cell BK184.out 5).trans rfl; have hcz42_6 : w41.cell? ⟨gb184, 6, none⟩ = some (.int .i64 a0_6) := (blk_cell BK184.out 6).trans rfl; have hcz42_7 : w41.cell? ⟨gb184, 7, none⟩ = some (.int .i64 a0_7) := (blk_cell BK184.out 7).trans rfl; have hfz42_0 := blk_frozen BK184.out 0; have hfz42_1 := blk_frozen BK184.out 1; have hfz42_2 := blk_frozen BK184.out 2; have hfz42_3 := blk_frozen BK184.out 3; have hfz42_4 := blk_frozen BK184.out 4; have hfz42_5 := blk_frozen BK184.out 5; have hfz42_6 := blk_frozen BK184.out 6; have hfz42_7 := blk_frozen BK184.out 7) | ((with_reducible refine gate_callee (f := 66) rfl ?_); refine goesL_ (some 11) rfl rfl Tryd.func66 (by kernel_rfl) rfl #[.agg #[.int .i64 a0_0, .int .i64 a0_1, .int .i64 a0_2, .int .i64 a0_3, .int .i64 a0_4, .int .i64 a0_5, .int .i64 a0_6, .int .i64 a0_7]] rfl aA ?_; (with_reducible refine (config_asked_bounds.calls a0_0 a0_1 a0_2 a0_3 a0_4 a0_5 a0_6 a0_7 t185 t186 t187 t188 _ A2.out).mono ?_); rintro e w43 ⟨rfl, hb⟩; refine ⟨_, rfl, ?_⟩; have n0_ := Aside0.mk (blk_below (g := gb184) kA hb); have n1_ := Aside0.mk (below_step bA hb); clear BK184 HB; have BK184 := n0_; have HB := n1_; clear n0_ n1_; (try clear hb)) | ((with_reducible refine gate_dst (N := 3) rfl ?_); refine bxA 3 #[.int .u64 0, .int .u64 0] 87 ?_; intro gb189 hg w44 hbox hb; have n0_ := Aside0.mk (blk_below (g := gb184) kA hb); have n1_ := Aside0.mk (below_step bA hb); have n2_ := Aside0.mk (hbox); have n3_ := Aside0.mk (gwA hg bA); have n4_ := Aside0.mk (gwA hg bA); have n5_ := Aside0.mk (neA (g := gb184) hg kA); have n6_ := Aside0.mk (neB (g := gb184) hg kA); clear BK184 HB; have BK184 := n0_; have HB := n1_; have BK189 := n2_; have GW189 := n3_; have GE189 := n4_; have NB184_189 := n5_; have NB189_184 := n6_; clear n0_ n1_ n2_ n3_ n4_ n5_ n6_ hb hbox hg) | ((with_reducible refine gate_dst (N := 4) rfl ?_); refine bxA 4 #[.int .u64 0, .int .u64 0] 87 ?_; intro gb190 hg w45 hbox hb; have n0_ := Aside0.mk (blk_below (g := gb184) kA hb); have n1_ := Aside0.mk (blk_below (g := gb189) kA hb); have n2_ := Aside0.mk (below_step bA hb); have n3_ := Aside0.mk (hbox); have n4_ := Aside0.mk (gwA hg bA); have n5_ := Aside0.mk (gwA hg bA); have n6_ := Aside0.mk (neA (g := gb184) hg kA); have n7_ := Aside0.mk (neB (g := gb184) hg kA); have n8_ := Aside0.mk (neA (g := gb189) hg kA); have n9_ := Aside0.mk (neB (g := gb189) hg kA); clear BK184 BK189 HB; have BK184 := n0_; have BK189 := n1_; have HB := n2_; have BK190 := n3_; have GW190 := n4_; have GE190 := n5_; have NB184_190 := n6_; have NB190_184 := n7_; have NB189_190 := n8_; have NB190_189 := n9_; clear n0_ n1_ n2_ n3_ n4_ n5_ n6_ n7_ n8_ n9_ hb hbox hg; have hnb46 := NB189_184.out; have hnc46 := NB184_189.out; have hnb47 := NB189_190.out; have hnc47 := NB190_189.out; have hcz48_0 : w45.cell? ⟨gb189, 0, none⟩ = some (.int .u64 0) := (blk_cell BK189.out 0).trans rfl; have hcz48_1 : w45.cell? ⟨gb189, 1, none⟩ = some (.int .u64 0) := (blk_cell BK189.out 1).trans rfl; have hfz48_0 := blk_frozen BK189.out 0; have hfz48_1 := blk_frozen BK189.out 1; have hnb49 := NB190_184.out; have hnc49 := NB184_190.out; have hcz50_0 : w45.cell? ⟨gb190, 0, none⟩ = some (.int .u64 0) := (blk_cell BK190.out 0).trans rfl; have hcz50_1 : w45.cell? ⟨gb190, 1, none⟩ = some (.int .u64 0) := (blk_cell BK190.out 1).trans rfl; have hfz50_0 := blk_frozen BK190.out 0; have hfz50_1 := blk_frozen BK190.out 1) | ((with_reducible refine gate_callee (f := 67) rfl ?_); refine goesL_ (some 16) rfl rfl Tryd.func67 (by kernel_rfl) rfl #[.agg #[.int .u64 t185, .int .u64 t186], .int .u64 1000] rfl aA ?_; (with_reducible refine (wide_Times.calls t185 t186 1000 t191 t192 t193 _ A3.out).mono ?_); rintro e w51 ⟨rfl, hb⟩; refine ⟨_, rfl, ?_⟩; have n0_ := Aside0.mk (blk_below (g := gb184) (o := .cells #[.int .i64 a0_0, .int .i64 a0_1, .int .i64 a0_2, .int .i64 a0_3, .int .i64 a0_4, .int .i64 a0_5, .int .i64 a0_6, .int .i64 a0_7] 77 (0, 0)) (by (with_reducible repeat (first | refine blk_drewN ?_ _ | refine blk_drew ?_ | refine blk_alloc ?_ _)); refine blk_far ?_ NB184_190.out _; (with_reducible repeat (first | refine blk_drewN ?_ _ | refine blk_drew ?_ | refine blk_alloc ?_ _)); refine blk_far ?_ NB184_190.out _; (with_reducible repeat (first | refine blk_drewN ?_ _ | refine blk_drew ?_ | refine blk_alloc ?_ _)); refine blk_far ?_ NB184_189.out _; (with_reducible repeat (first | refine blk_drewN ?_ _ | refine blk_drew ?_ | refine blk_alloc ?_ _)); refine blk_far ?_ NB184_189.out _; exact kA) hb); have n1_ := Aside0.mk (blk_below (g := gb189) (o := .cells #[.int .u64 t185, .int .u64 t186] 87 (0, 0)) (by (with_reducible repeat (first | refine blk_drewN ?_ _ | refine blk_drew ?_ | refine blk_alloc ?_ _)); refine blk_far ?_ NB189_190.out _; (with_reducible repeat (first | refine blk_drewN ?_ _ | refine blk_drew ?_ | refine blk_alloc ?_ _)); refine blk_far ?_ NB189_190.out _; (with_reducible repeat (first | refine blk_drewN ?_ _ | refine blk_drew ?_ | refine blk_alloc ?_ _)); refine blk_put (cs := #[.int .u64 t185, .int .u64 0]) ?_ 1 _ rfl; (with_reducible repeat (first | refine blk_drewN ?_ _ | refine blk_drew ?_ | refine blk_alloc ?_ _)); refine blk_put (cs := #[.int .u64 0, .int .u64 0]) ?_ 0 _ rfl; exact kA) hb); have n2_ := Aside0.mk (blk_below (g := gb190) (o := .cells #[.int .u64 t187, .int .u64 t188] 87 (0, 0)) (by (with_reducible repeat (first | refine blk_drewN ?_ _ | refine blk_drew ?_ | refine blk_alloc ?_ _)); refine blk_put (cs := #[.int .u64 t187, .int .u64 0]) ?_ 1 _ rfl; (with_reducible repeat (first | refine blk_drewN ?_ _ | refine blk_drew ?_ | refine blk_alloc ?_ _)); refine blk_put (cs := #[.int .u64 0, .int .u64 0]) ?_ 0 _ rfl; (with_reducible repeat (first | refine blk_drewN ?_ _ | refine blk_drew ?_ | refine blk_alloc ?_ _)); refine blk_far ?_ NB190_189.out _; (with_reducible repeat (first | refine blk_drewN ?_ _ | refine blk_drew ?_ | refine blk_alloc ?_ _)); refine blk_far ?_ NB190_189.out _; exact kA) hb); have n3_ := Aside0.mk (below_step bA hb); clear BK184 BK189 BK190 HB; have BK184 := n0_; have BK189 := n1_; have BK190 := n2_; have HB := n3_; clear n0_ n1_ n2_ n3_; (try clear hb)) | ((with_reducible refine gate_dst (N := 5) rfl ?_); refine bxA 5 #[.int .u64 0, .int .u64 0] 87 ?_; intro gb194 hg w52 hbox hb; have n0_ := Aside0.mk (blk_below (g := gb184) kA hb); have n1_ := Aside0.mk (blk_below (g := gb189) kA hb); have n2_ := Aside0.mk (blk_below (g := gb190) kA hb); have n3_ := Aside0.mk (below_step bA hb); have n4_ := Aside0.mk (hbox); have n5_ := Aside0.mk (gwA hg bA); have n6_ := Aside0.mk (gwA hg bA); have n7_ := Aside0.mk (neA (g := gb184) hg kA); have n8_ := Aside0.mk (neB (g := gb184) hg kA); have n9_ := Aside0.mk (neA (g := gb189) hg kA); have n10_ := Aside0.mk (neB (g := gb189) hg kA); have n11_ := Aside0.mk (neA (g := gb190) hg kA); have n12_ := Aside0.mk (neB (g := gb190) hg kA); clear BK184 BK189 BK190 HB; have BK184 := n0_; have BK189 := n1_; have BK190 := n2_; have HB := n3_; have BK194 := n4_; have GW194 := n5_; have GE194 := n6_; have NB184_194 := n7_; have NB194_184 := n8_; have NB189_194 := n9_; have NB194_189 := n10_; have NB190_194 := n11_; have NB194_190 := n12_; clear n0_ n1_ n2_ n3_ n4_ n5_ n6_ n7_ n8_ n9_ n10_ n11_ n12_ hb hbox hg; have hnb53 := NB194_184.out; have hnc53 := NB184_194.out; have hnb54 := NB194_189.out; have hnc54 := NB189_194.out; have hnb55 := NB194_190.out; have hnc55 := NB190_194.out; have hcz56_0 : w52.cell? ⟨gb194, 0, none⟩ = some (.int .u64 0) := (blk_cell BK194.out 0).trans rfl; have hcz56_1 : w52.cell? ⟨gb194, 1, none⟩ = some (.int .u64 0) := (blk_cell BK194.out 1).trans rfl; have hfz56_0 := blk_frozen BK194.out 0; have hfz56_1 := blk_frozen BK194.out 1))
  have n0_ : Aside0 (((w52.setCell ⟨gb194, 0, none⟩ (.int .u64 t191)).setCell ⟨gb194, 1, none⟩ (.int .u64 t192)).heap[gb184]? = some (.cells #[.int .i64 a0_0, .int .i64 a0_1, .int .i64 a0_2, .int .i64 a0_3, .int .i64 a0_4, .int .i64 a0_5, .int .i64 a0_6, .int .i64 a0_7] 77 (0, 0))) := ⟨by (with_reducible repeat (first | refine blk_drewN ?_ _ | refine blk_drew ?_ | refine blk_alloc ?_ _)); refine blk_far ?_ NB184_194.out _; (with_reducible repeat (first | refine blk_drewN ?_ _ | refine blk_drew ?_ | refine blk_alloc ?_ _)); refine blk_far ?_ NB184_194.out _; exact kA⟩
  have n1_ : Aside0 (((w52.setCell ⟨gb194, 0, none⟩ (.int .u64 t191)).setCell ⟨gb194, 1, none⟩ (.int .u64 t192)).heap[gb189]? = some (.cells #[.int .u64 t185, .int .u64 t186] 87 (0, 0))) := ⟨by (with_reducible repeat (first | refine blk_drewN ?_ _ | refine blk_drew ?_ | refine blk_alloc ?_ _)); refine blk_far ?_ NB189_194.out _; (with_reducible repeat (first | refine blk_drewN ?_ _ | refine blk_drew ?_ | refine blk_alloc ?_ _)); refine blk_far ?_ NB189_194.out _; exact kA⟩
  have n2_ : Aside0 (((w52.setCell ⟨gb194, 0, none⟩ (.int .u64 t191)).setCell ⟨gb194, 1, none⟩ (.int .u64 t192)).heap[gb190]? = some (.cells #[.int .u64 t187, .int .u64 t188] 87 (0, 0))) := ⟨by (with_reducible repeat (first | refine blk_drewN ?_ _ | refine blk_drew ?_ | refine blk_alloc ?_ _)); refine blk_far ?_ NB190_194.out _; (with_reducible repeat (first | refine blk_drewN ?_ _ | refine blk_drew ?_ | refine blk_alloc ?_ _)); refine blk_far ?_ NB190_194.out _; exact kA⟩
  have n3_ : Aside0 (((w52.setCell ⟨gb194, 0, none⟩ (.int .u64 t191)).setCell ⟨gb194, 1, none⟩ (.int .u64 t192)).heap[gb194]? = some (.cells #[.int .u64 t191, .int .u64 t192] 87 (0, 0))) := ⟨by (with_reducible repeat (first | refine blk_drewN ?_ _ | refine blk_drew ?_ | refine blk_alloc ?_ _)); refine blk_put (cs := #[.int .u64 t191, .int .u64 0]) ?_ 1 _ rfl; (with_reducible repeat (first | refine blk_drewN ?_ _ | refine blk_drew ?_ | refine blk_alloc ?_ _)); refine blk_put (cs := #[.int .u64 0, .int .u64 0]) ?_ 0 _ rfl; exact kA⟩
  have n4_ : Aside0 (Below w.heap.size w ((w52.setCell ⟨gb194, 0, none⟩ (.int .u64 t191)).setCell ⟨gb194, 1, none⟩ (.int .u64 t192))) := ⟨bA⟩
  (try clear BK184); (try clear BK189); (try clear BK190); (try clear BK194); (try clear HB)
  generalize ((w52.setCell ⟨gb194, 0, none⟩ (.int .u64 t191)).setCell ⟨gb194, 1, none⟩ (.int .u64 t192)) = w57 at n0_ n1_ n2_ n3_ n4_ ⊢
  have BK184 := n0_; have BK189 := n1_; have BK190 := n2_; have BK194 := n3_; have HB := n4_; clear n0_ n1_ n2_ n3_ n4_; have n0_ := Aside0.mk (blk_drew BK184.out); have n1_ := Aside0.mk (blk_drew BK189.out); have n2_ := Aside0.mk (blk_drew BK190.out); have n3_ := Aside0.mk (blk_drew BK194.out); have n4_ := Aside0.mk (below_drew1 HB.out); clear BK184 BK189 BK190 BK194 HB; have BK184 := n0_; have BK189 := n1_; have BK190 := n2_; have BK194 := n3_; have HB := n4_; clear n0_ n1_ n2_ n3_ n4_
  refine start_ (n := 18) (S := fun w' => w'.cell? ⟨gb190, 0, none⟩ = some (.int .u64 t187) ∧ w'.cell? ⟨gb190, 1, none⟩ = some (.int .u64 t188) ∧ w'.cell? ⟨gb184, 0, none⟩ = some (.int .i64 a0_0) ∧ w'.cell? ⟨gb184, 1, none⟩ = some (.int .i64 a0_1) ∧ w'.cell? ⟨gb184, 2, none⟩ = some (.int .i64 a0_2) ∧ w'.cell? ⟨gb184, 3, none⟩ = some (.int .i64 a0_3) ∧ w'.cell? ⟨gb184, 4, none⟩ = some (.int .i64 a0_4) ∧ w'.cell? ⟨gb184, 5, none⟩ = some (.int .i64 a0_5) ∧ w'.cell? ⟨gb184, 6, none⟩ = some (.int .i64 a0_6) ∧ w'.cell? ⟨gb184, 7, none⟩ = some (.int .i64 a0_7)) (ds := []) #[false, false, false, false, false, false, false, false, false, false, false, false, false, false, false, false, false, false] (by kernel_rfl) rfl rfl ⟨(blk_cell BK190.out 0).trans rfl, (blk_cell BK190.out 1).trans rfl, (blk_cell BK184.out 0).trans rfl, (blk_cell BK184.out 1).trans rfl, (blk_cell BK184.out 2).trans rfl, (blk_cell BK184.out 3).trans rfl, (blk_cell BK184.out 4).trans rfl, (blk_cell BK184.out 5).trans rfl, (blk_cell BK184.out 6).trans rfl, (blk_cell BK184.out 7).trans rfl⟩ (fun hHeld => ?_); refine with_tabW config_asked_off.tab3 config_asked_off.bits3 (fun HT_ HW_ => ?_)
  generalize w57.drew = w58 at BK184 BK189 BK190 BK194 HB hHeld ⊢
  refine pure_ (i := 1) (N := some 21) (v := ?_) (a' := ?_) #[false, true, false, false, false, false, false, false, false, false, false, false, false, false, false, false, false, false] rfl rfl (any_of HT_.out (by kernel_rfl)) (fun _ _ _ h => h) (Or.inl ⟨by rfl, ?_⟩) ?_ ?_
  rotate_left
  ·intro w'
   go_simp; with_reducible rfl
  rotate_left
  ·simp only [Act.put, List.setIfInBounds_toArray, List.set_cons_zero, List.set_cons_succ, i64_w, i32_w]
   rfl
  refine pure_ (i := 2) (N := some 22) (v := ?_) (a' := ?_) #[false, true, true, false, false, false, false, false, false, false, false, false, false, false, false, false, false, false] rfl rfl (any_of HT_.out (by kernel_rfl)) (fun _ _ _ h => h) (Or.inl ⟨by rfl, ?_⟩) ?_ ?_
  rotate_left
  ·intro w'
   go_simp; with_reducible rfl
  rotate_left
  ·simp only [Act.put, List.setIfInBounds_toArray, List.set_cons_zero, List.set_cons_succ, i64_w, i32_w]
   rfl
  refine take_ (i := 0) (N := some 20) (v := ?_) (a' := ?_) #[true, true, true, false, false, false, false, false, false, false, false, false, false, false, false, false, false, false] rfl rfl (take_ofW HT_.out HW_.out (by kernel_rfl)) (fun _ _ _ h => h) (Or.inl ⟨by rfl, ?_⟩) hHeld ?_ ?_
  rotate_left
  ·rintro w' ⟨s0, s1, s2, s3, s4, s5, s6, s7, s8, s9⟩
   go_simp; with_reducible rfl
  rotate_left
  ·simp only [Act.put, List.setIfInBounds_toArray, List.set_cons_zero, List.set_cons_succ, i64_w, i32_w]
   rfl
  refine take_ (i := 3) (N := some 23) (v := ?_) (a' := ?_) #[true, true, true, true, false, false, false, false, false, false, false, false, false, false, false, false, false, false] rfl rfl (take_ofW HT_.out HW_.out (by kernel_rfl)) (fun _ _ _ h => h) (Or.inl ⟨by rfl, ?_⟩) hHeld ?_ ?_
  rotate_left
  ·rintro w' ⟨s0, s1, s2, s3, s4, s5, s6, s7, s8, s9⟩
   go_simp; with_reducible rfl
  rotate_left
  ·simp only [Act.put, List.setIfInBounds_toArray, List.set_cons_zero, List.set_cons_succ, i64_w, i32_w]
   rfl
  refine take_ (i := 4) (N := some 24) (v := ?_) (a' := ?_) #[true, true, true, true, true, false, false, false, false, false, false, false, false, false, false, false, false, false] rfl rfl (take_ofW HT_.out HW_.out (by kernel_rfl)) (fun _ _ _ h => h) (Or.inl ⟨by rfl, ?_⟩) hHeld ?_ ?_
  rotate_left
  ·rintro w' ⟨s0, s1, s2, s3, s4, s5, s6, s7, s8, s9⟩
   go_simp; with_reducible rfl
  rotate_left
  ·simp only [Act.put, List.setIfInBounds_toArray, List.set_cons_zero, List.set_cons_succ, i64_w, i32_w]
   rfl
  refine take_ (i := 7) (N := some 27) (v := ?_) (a' := ?_) #[true, true, true, true, true, false, false, true, false, false, false, false, false, false, false, false, false, false] rfl rfl (take_ofW HT_.out HW_.out (by kernel_rfl)) (fun _ _ _ h => h) (Or.inl ⟨by rfl, ?_⟩) hHeld ?_ ?_
  rotate_left
  ·rintro w' ⟨s0, s1, s2, s3, s4, s5, s6, s7, s8, s9⟩
   go_simp; with_reducible rfl
  rotate_left
  ·simp only [Act.put, List.setIfInBounds_toArray, List.set_cons_zero, List.set_cons_succ, i64_w, i32_w]
   rfl
  refine join_ (σ := Nat) 2 #[true, true, true, true, true, true, true, true, true, true, true, true, true, true, true, true, false, false] (fun s_ => [(25, .int .i64 t195), (28, .int .i64 t196), (31, .tuple #[.agg #[.int .u64 t197, .int .u64 t198], .bool t199]), (7, .pointer (some ⟨s_, 0, none⟩)), (26, .int .i64 (wrap64 (a0_3 * t195))), (29, .int .i64 (wrap64 ((wrap64 (a0_3 * t195)) + t196))), (30, .int .u64 (IntKind.u64.wrap (wrap64 ((wrap64 (a0_3 * t195)) + t196)))), (19, .tuple #[.agg #[.int .u64 t197, .int .u64 t198], .bool t199]), (32, .agg #[.int .u64 t197, .int .u64 t198]), (33, .bool t199)]) (fun s_ w' => (w'.cell? ⟨gb190, 0, none⟩ = some (.int .u64 t187) ∧ w'.cell? ⟨gb190, 1, none⟩ = some (.int .u64 t188) ∧ w'.cell? ⟨gb184, 0, none⟩ = some (.int .i64 a0_0) ∧ w'.cell? ⟨gb184, 1, none⟩ = some (.int .i64 a0_1) ∧ w'.cell? ⟨gb184, 2, none⟩ = some (.int .i64 a0_2) ∧ w'.cell? ⟨gb184, 3, none⟩ = some (.int .i64 a0_3) ∧ w'.cell? ⟨gb184, 4, none⟩ = some (.int .i64 a0_4) ∧ w'.cell? ⟨gb184, 5, none⟩ = some (.int .i64 a0_5) ∧ w'.cell? ⟨gb184, 6, none⟩ = some (.int .i64 a0_6) ∧ w'.cell? ⟨gb184, 7, none⟩ = some (.int .i64 a0_7)) ∧ (w'.heap[gb184]? = some (.cells #[.int .i64 a0_0, .int .i64 a0_1, .int .i64 a0_2, .int .i64 a0_3, .int .i64 a0_4, .int .i64 a0_5, .int .i64 a0_6, .int .i64 a0_7] 77 (0, 0))) ∧ (w'.heap[gb189]? = some (.cells #[.int .u64 t185, .int .u64 t186] 87 (0, 0))) ∧ (w'.heap[gb190]? = some (.cells #[.int .u64 t187, .int .u64 t188] 87 (0, 0))) ∧ (w'.heap[gb194]? = some (.cells #[.int .u64 t191, .int .u64 t192] 87 (0, 0))) ∧ (w'.heap[s_]? = some (.cells #[.int .u64 0, .int .u64 0] 87 (0, 0))) ∧ (w.heap.size ≤ s_) ∧ (w.heap.size ≤ s_) ∧ (gb184 ≠ s_) ∧ (s_ ≠ gb184) ∧ (gb189 ≠ s_) ∧ (s_ ≠ gb189) ∧ (gb190 ≠ s_) ∧ (s_ ≠ gb190) ∧ (gb194 ≠ s_) ∧ (s_ ≠ gb194) ∧ (Below w.heap.size w w')) ?_ ?_
  rotate_left
  ·intro hCont
   refine two_ (i := 5) (j := 15) (Ni := some 25) (Nj := some 7) #[true, true, true, true, true, true, false, true, false, false, false, false, false, false, false, false, false, false] #[true, true, true, true, true, false, false, true, false, false, false, false, false, false, false, true, false, false] rfl rfl rfl rfl (two_of HT_.out (by kernel_rfl)) (by decide) (by decide) (fun K hK => ?_) (fun K hK => ?_)
   ·skip
    refine goes_ Tryd.func68 (by kernel_rfl) rfl #[.agg #[.int .i64 a0_0, .int .i64 a0_1, .int .i64 a0_2, .int .i64 a0_3, .int .i64 a0_4, .int .i64 a0_5, .int .i64 a0_6, .int .i64 a0_7]] (by rfl) rfl rfl aA ?_
    with_reducible refine (config_asked_bound.calls a0_0 a0_1 a0_2 a0_3 a0_4 a0_5 a0_6 a0_7 t195 _ A4.out).mono ?_
    rintro e w59 ⟨rfl, hb⟩
    refine ⟨_, rfl, ?_⟩; have n0_ := Aside0.mk (blk_below (g := gb184) kA hb); have n1_ := Aside0.mk (blk_below (g := gb189) kA hb); have n2_ := Aside0.mk (blk_below (g := gb190) kA hb); have n3_ := Aside0.mk (blk_below (g := gb194) kA hb); have n4_ := Aside0.mk (below_step bA hb); clear BK184 BK189 BK190 BK194 HB; have BK184 := n0_; have BK189 := n1_; have BK190 := n2_; have BK194 := n3_; have HB := n4_; clear n0_ n1_ n2_ n3_ n4_; (try clear hb)
    refine hK.out _ _ ⟨(blk_cell BK190.out 0).trans rfl, (blk_cell BK190.out 1).trans rfl, (blk_cell BK184.out 0).trans rfl, (blk_cell BK184.out 1).trans rfl, (blk_cell BK184.out 2).trans rfl, (blk_cell BK184.out 3).trans rfl, (blk_cell BK184.out 4).trans rfl, (blk_cell BK184.out 5).trans rfl, (blk_cell BK184.out 6).trans rfl, (blk_cell BK184.out 7).trans rfl⟩ (fun hHeld => ?_)
    clear hK K
    refine norm_ (a' := ?_) ?_ ?_
    rotate_left
    ·show Act.put _ (some 25) _ = _
     simp only [Act.put, List.setIfInBounds_toArray, List.set_cons_zero, List.set_cons_succ, i64_w, i32_w]
     rfl
    refine pure_ (i := 6) (N := some 26) (v := ?_) (a' := ?_) #[true, true, true, true, true, true, true, true, false, false, false, false, false, false, false, false, false, false] rfl rfl (any_of HT_.out (by kernel_rfl)) (fun _ _ _ h => h) (Or.inl ⟨by rfl, ?_⟩) ?_ ?_
    rotate_left
    ·intro w'
     go_simp; with_reducible rfl
    rotate_left
    ·simp only [Act.put, List.setIfInBounds_toArray, List.set_cons_zero, List.set_cons_succ, i64_w, i32_w]
     rfl
    refine two_ (i := 8) (j := 15) (Ni := some 28) (Nj := some 7) #[true, true, true, true, true, true, true, true, true, false, false, false, false, false, false, false, false, false] #[true, true, true, true, true, true, true, true, false, false, false, false, false, false, false, true, false, false] rfl rfl rfl rfl (two_of HT_.out (by kernel_rfl)) (by decide) (by decide) (fun K hK => ?_) (fun K hK => ?_)
    ·skip
     refine goes_ Tryd.func65 (by kernel_rfl) rfl #[.agg #[.int .i64 a0_0, .int .i64 a0_1, .int .i64 a0_2, .int .i64 a0_3, .int .i64 a0_4, .int .i64 a0_5, .int .i64 a0_6, .int .i64 a0_7]] (by rfl) rfl rfl aA ?_
     with_reducible refine (config_asked_fairSize.calls a0_0 a0_1 a0_2 a0_3 a0_4 a0_5 a0_6 a0_7 t196 _ A5.out).mono ?_
     rintro e w60 ⟨rfl, hb⟩
     refine ⟨_, rfl, ?_⟩; have n0_ := Aside0.mk (blk_below (g := gb184) kA hb); have n1_ := Aside0.mk (blk_below (g := gb189) kA hb); have n2_ := Aside0.mk (blk_below (g := gb190) kA hb); have n3_ := Aside0.mk (blk_below (g := gb194) kA hb); have n4_ := Aside0.mk (below_step bA hb); clear BK184 BK189 BK190 BK194 HB; have BK184 := n0_; have BK189 := n1_; have BK190 := n2_; have BK194 := n3_; have HB := n4_; clear n0_ n1_ n2_ n3_ n4_; (try clear hb)
     refine hK.out _ _ ⟨(blk_cell BK190.out 0).trans rfl, (blk_cell BK190.out 1).trans rfl, (blk_cell BK184.out 0).trans rfl, (blk_cell BK184.out 1).trans rfl, (blk_cell BK184.out 2).trans rfl, (blk_cell BK184.out 3).trans rfl, (blk_cell BK184.out 4).trans rfl, (blk_cell BK184.out 5).trans rfl, (blk_cell BK184.out 6).trans rfl, (blk_cell BK184.out 7).trans rfl⟩ (fun hHeld => ?_)
     clear hK K
     refine norm_ (a' := ?_) ?_ ?_
     rotate_left
     ·show Act.put _ (some 28) _ = _
      simp only [Act.put, List.setIfInBounds_toArray, List.set_cons_zero, List.set_cons_succ, i64_w, i32_w]
      rfl
     refine pure_ (i := 9) (N := some 29) (v := ?_) (a' := ?_) #[true, true, true, true, true, true, true, true, true, true, false, false, false, false, false, false, false, false] rfl rfl (any_of HT_.out (by kernel_rfl)) (fun _ _ _ h => h) (Or.inl ⟨by rfl, ?_⟩) ?_ ?_
     rotate_left
     ·intro w'
      go_simp; with_reducible rfl
     rotate_left
     ·simp only [Act.put, List.setIfInBounds_toArray, List.set_cons_zero, List.set_cons_succ, i64_w, i32_w]
      rfl
     refine pure_ (i := 10) (N := some 30) (v := ?_) (a' := ?_) #[true, true, true, true, true, true, true, true, true, true, true, false, false, false, false, false, false, false] rfl rfl (any_of HT_.out (by kernel_rfl)) (fun _ _ _ h => h) (Or.inl ⟨by rfl, ?_⟩) ?_ ?_
     rotate_left
     ·intro w'
      go_simp; with_reducible rfl
     rotate_left
     ·simp only [Act.put, List.setIfInBounds_toArray, List.set_cons_zero, List.set_cons_succ, i64_w, i32_w]
      rfl
     refine two_ (i := 11) (j := 15) (Ni := some 31) (Nj := some 7) #[true, true, true, true, true, true, true, true, true, true, true, true, false, false, false, false, false, false] #[true, true, true, true, true, true, true, true, true, true, true, false, false, false, false, true, false, false] rfl rfl rfl rfl (two_of HT_.out (by kernel_rfl)) (by decide) (by decide) (fun K hK => ?_) (fun K hK => ?_)
     ·skip
      refine goes_ Tryd.func67 (by kernel_rfl) rfl #[.agg #[.int .u64 t187, .int .u64 t188], .int .u64 (IntKind.u64.wrap (wrap64 ((wrap64 (a0_3 * t195)) + t196)))] (by rfl) rfl rfl aA ?_
      with_reducible refine (wide_Times.calls t187 t188 (IntKind.u64.wrap (wrap64 ((wrap64 (a0_3 * t195)) + t196))) t197 t198 t199 _ A6.out).mono ?_
      rintro e w61 ⟨rfl, hb⟩
      refine ⟨_, rfl, ?_⟩; have n0_ := Aside0.mk (blk_below (g := gb184) kA hb); have n1_ := Aside0.mk (blk_below (g := gb189) kA hb); have n2_ := Aside0.mk (blk_below (g := gb190) kA hb); have n3_ := Aside0.mk (blk_below (g := gb194) kA hb); have n4_ := Aside0.mk (below_step bA hb); clear BK184 BK189 BK190 BK194 HB; have BK184 := n0_; have BK189 := n1_; have BK190 := n2_; have BK194 := n3_; have HB := n4_; clear n0_ n1_ n2_ n3_ n4_; (try clear hb)
      refine hK.out _ _ ⟨(blk_cell BK190.out 0).trans rfl, (blk_cell BK190.out 1).trans rfl, (blk_cell BK184.out 0).trans rfl, (blk_cell BK184.out 1).trans rfl, (blk_cell BK184.out 2).trans rfl, (blk_cell BK184.out 3).trans rfl, (blk_cell BK184.out 4).trans rfl, (blk_cell BK184.out 5).trans rfl, (blk_cell BK184.out 6).trans rfl, (blk_cell BK184.out 7).trans rfl⟩ (fun hHeld => ?_)
      clear hK K
      refine norm_ (a' := ?_) ?_ ?_
      rotate_left
      ·show Act.put _ (some 31) _ = _
       simp only [Act.put, List.setIfInBounds_toArray, List.set_cons_zero, List.set_cons_succ, i64_w, i32_w]
       rfl
      refine pure_ (i := 12) (N := some 19) (v := ?_) (a' := ?_) #[true, true, true, true, true, true, true, true, true, true, true, true, true, false, false, false, false, false] rfl rfl (any_of HT_.out (by kernel_rfl)) (fun _ _ _ h => h) (Or.inl ⟨by rfl, ?_⟩) ?_ ?_
      rotate_left
      ·intro w'
       go_simp; with_reducible rfl
      rotate_left
      ·simp only [Act.put, List.setIfInBounds_toArray, List.set_cons_zero, List.set_cons_succ, i64_w, i32_w]
       rfl
      refine pure_ (i := 13) (N := some 32) (v := ?_) (a' := ?_) #[true, true, true, true, true, true, true, true, true, true, true, true, true, true, false, false, false, false] rfl rfl (any_of HT_.out (by kernel_rfl)) (fun _ _ _ h => h) (Or.inl ⟨by rfl, ?_⟩) ?_ ?_
      rotate_left
      ·intro w'
       go_simp; with_reducible rfl
      rotate_left
      ·simp only [Act.put, List.setIfInBounds_toArray, List.set_cons_zero, List.set_cons_succ, i64_w, i32_w]
       rfl
      refine pure_ (i := 14) (N := some 33) (v := ?_) (a' := ?_) #[true, true, true, true, true, true, true, true, true, true, true, true, true, true, true, false, false, false] rfl rfl (any_of HT_.out (by kernel_rfl)) (fun _ _ _ h => h) (Or.inl ⟨by rfl, ?_⟩) ?_ ?_
      rotate_left
      ·intro w'
       go_simp; with_reducible rfl
      rotate_left
      ·simp only [Act.put, List.setIfInBounds_toArray, List.set_cons_zero, List.set_cons_succ, i64_w, i32_w]
       rfl
      refine one_ (i := 15) (N := some 7) #[true, true, true, true, true, true, true, true, true, true, true, true, true, true, true, true, false, false] rfl rfl (one_of HT_.out (by kernel_rfl)) (by decide) (fun K hK => ?_)
      refine box_step ?hg (N := 7) ?hd (cs := #[.int .u64 0, .int .u64 0]) (t := 87) ?hr ?_; (case hd => rfl); (case hg => rfl); (case hr => first | (go_simp; done) | (go_simp; rfl))
      intro gb200 hg w62 hbox hb
      have n0_ := Aside0.mk (blk_below (g := gb184) kA hb); have n1_ := Aside0.mk (blk_below (g := gb189) kA hb); have n2_ := Aside0.mk (blk_below (g := gb190) kA hb); have n3_ := Aside0.mk (blk_below (g := gb194) kA hb); have n4_ := Aside0.mk (below_step bA hb); have n5_ := Aside0.mk (hbox); have n6_ := Aside0.mk (gwA hg bA); have n7_ := Aside0.mk (gwA hg bA); have n8_ := Aside0.mk (neA (g := gb184) hg kA); have n9_ := Aside0.mk (neB (g := gb184) hg kA); have n10_ := Aside0.mk (neA (g := gb189) hg kA); have n11_ := Aside0.mk (neB (g := gb189) hg kA); have n12_ := Aside0.mk (neA (g := gb190) hg kA); have n13_ := Aside0.mk (neB (g := gb190) hg kA); have n14_ := Aside0.mk (neA (g := gb194) hg kA); have n15_ := Aside0.mk (neB (g := gb194) hg kA); clear BK184 BK189 BK190 BK194 HB; have BK184 := n0_; have BK189 := n1_; have BK190 := n2_; have BK194 := n3_; have HB := n4_; have BK200 := n5_; have GW200 := n6_; have GE200 := n7_; have NB184_200 := n8_; have NB200_184 := n9_; have NB189_200 := n10_; have NB200_189 := n11_; have NB190_200 := n12_; have NB200_190 := n13_; have NB194_200 := n14_; have NB200_194 := n15_; clear n0_ n1_ n2_ n3_ n4_ n5_ n6_ n7_ n8_ n9_ n10_ n11_ n12_ n13_ n14_ n15_ hb hbox hg
      refine hK.out _ _ ⟨(blk_cell BK190.out 0).trans rfl, (blk_cell BK190.out 1).trans rfl, (blk_cell BK184.out 0).trans rfl, (blk_cell BK184.out 1).trans rfl, (blk_cell BK184.out 2).trans rfl, (blk_cell BK184.out 3).trans rfl, (blk_cell BK184.out 4).trans rfl, (blk_cell BK184.out 5).trans rfl, (blk_cell BK184.out 6).trans rfl, (blk_cell BK184.out 7).trans rfl⟩ (fun hHeld => ?_)
      clear hK K
      refine norm_ (a' := ?_) ?_ ?_
      rotate_left
      ·show Act.put _ (some 7) _ = _
       simp only [Act.put, List.setIfInBounds_toArray, List.set_cons_zero, List.set_cons_succ, i64_w, i32_w]
       rfl
      exact norm_ (by simp only [putAll, Act.put, List.setIfInBounds_toArray, List.set_cons_zero, List.set_cons_succ]) (hCont (gb200) _ ⟨hHeld, kA, kA, kA, kA, kA, GW200.out, GE200.out, NB184_200.out, NB200_184.out, NB189_200.out, NB200_189.out, NB190_200.out, NB200_190.out, NB194_200.out, NB200_194.out, bA⟩)
     ·skip
      refine box_step ?hg (N := 7) ?hd (cs := #[.int .u64 0, .int .u64 0]) (t := 87) ?hr ?_; (case hd => rfl); (case hg => rfl); (case hr => first | (go_simp; done) | (go_simp; rfl))
      intro gb200 hg w61 hbox hb
      have n0_ := Aside0.mk (blk_below (g := gb184) kA hb); have n1_ := Aside0.mk (blk_below (g := gb189) kA hb); have n2_ := Aside0.mk (blk_below (g := gb190) kA hb); have n3_ := Aside0.mk (blk_below (g := gb194) kA hb); have n4_ := Aside0.mk (below_step bA hb); have n5_ := Aside0.mk (hbox); have n6_ := Aside0.mk (gwA hg bA); have n7_ := Aside0.mk (gwA hg bA); have n8_ := Aside0.mk (neA (g := gb184) hg kA); have n9_ := Aside0.mk (neB (g := gb184) hg kA); have n10_ := Aside0.mk (neA (g := gb189) hg kA); have n11_ := Aside0.mk (neB (g := gb189) hg kA); have n12_ := Aside0.mk (neA (g := gb190) hg kA); have n13_ := Aside0.mk (neB (g := gb190) hg kA); have n14_ := Aside0.mk (neA (g := gb194) hg kA); have n15_ := Aside0.mk (neB (g := gb194) hg kA); clear BK184 BK189 BK190 BK194 HB; have BK184 := n0_; have BK189 := n1_; have BK190 := n2_; have BK194 := n3_; have HB := n4_; have BK200 := n5_; have GW200 := n6_; have GE200 := n7_; have NB184_200 := n8_; have NB200_184 := n9_; have NB189_200 := n10_; have NB200_189 := n11_; have NB190_200 := n12_; have NB200_190 := n13_; have NB194_200 := n14_; have NB200_194 := n15_; clear n0_ n1_ n2_ n3_ n4_ n5_ n6_ n7_ n8_ n9_ n10_ n11_ n12_ n13_ n14_ n15_ hb hbox hg
      refine hK.out _ _ ⟨(blk_cell BK190.out 0).trans rfl, (blk_cell BK190.out 1).trans rfl, (blk_cell BK184.out 0).trans rfl, (blk_cell BK184.out 1).trans rfl, (blk_cell BK184.out 2).trans rfl, (blk_cell BK184.out 3).trans rfl, (blk_cell BK184.out 4).trans rfl, (blk_cell BK184.out 5).trans rfl, (blk_cell BK184.out 6).trans rfl, (blk_cell BK184.out 7).trans rfl⟩ (fun hHeld => ?_)
      clear hK K
      refine norm_ (a' := ?_) ?_ ?_
      rotate_left
      ·show Act.put _ (some 7) _ = _
       simp only [Act.put, List.setIfInBounds_toArray, List.set_cons_zero, List.set_cons_succ, i64_w, i32_w]
       rfl
      refine one_ (i := 11) (N := some 31) #[true, true, true, true, true, true, true, true, true, true, true, true, false, false, false, true, false, false] rfl rfl (one_of HT_.out (by kernel_rfl)) (by decide) (fun K hK => ?_)
      refine goes_ Tryd.func67 (by kernel_rfl) rfl #[.agg #[.int .u64 t187, .int .u64 t188], .int .u64 (IntKind.u64.wrap (wrap64 ((wrap64 (a0_3 * t195)) + t196)))] (by rfl) rfl rfl aA ?_
      with_reducible refine (wide_Times.calls t187 t188 (IntKind.u64.wrap (wrap64 ((wrap64 (a0_3 * t195)) + t196))) t197 t198 t199 _ A6.out).mono ?_
      rintro e w62 ⟨rfl, hb⟩
      refine ⟨_, rfl, ?_⟩; have n0_ := Aside0.mk (blk_below (g := gb184) kA hb); have n1_ := Aside0.mk (blk_below (g := gb189) kA hb); have n2_ := Aside0.mk (blk_below (g := gb190) kA hb); have n3_ := Aside0.mk (blk_below (g := gb194) kA hb); have n4_ := Aside0.mk (blk_below (g := gb200) kA hb); have n5_ := Aside0.mk (below_step bA hb); clear BK184 BK189 BK190 BK194 BK200 HB; have BK184 := n0_; have BK189 := n1_; have BK190 := n2_; have BK194 := n3_; have BK200 := n4_; have HB := n5_; clear n0_ n1_ n2_ n3_ n4_ n5_; (try clear hb)
      refine hK.out _ _ ⟨(blk_cell BK190.out 0).trans rfl, (blk_cell BK190.out 1).trans rfl, (blk_cell BK184.out 0).trans rfl, (blk_cell BK184.out 1).trans rfl, (blk_cell BK184.out 2).trans rfl, (blk_cell BK184.out 3).trans rfl, (blk_cell BK184.out 4).trans rfl, (blk_cell BK184.out 5).trans rfl, (blk_cell BK184.out 6).trans rfl, (blk_cell BK184.out 7).trans rfl⟩ (fun hHeld => ?_)
      clear hK K
      refine norm_ (a' := ?_) ?_ ?_
      rotate_left
      ·show Act.put _ (some 31) _ = _
       simp only [Act.put, List.setIfInBounds_toArray, List.set_cons_zero, List.set_cons_succ, i64_w, i32_w]
       rfl
      refine pure_ (i := 12) (N := some 19) (v := ?_) (a' := ?_) #[true, true, true, true, true, true, true, true, true, true, true, true, true, false, false, true, false, false] rfl rfl (any_of HT_.out (by kernel_rfl)) (fun _ _ _ h => h) (Or.inl ⟨by rfl, ?_⟩) ?_ ?_
      rotate_left
      ·intro w'
       go_simp; with_reducible rfl
      rotate_left
      ·simp only [Act.put, List.setIfInBounds_toArray, List.set_cons_zero, List.set_cons_succ, i64_w, i32_w]
       rfl
      refine pure_ (i := 13) (N := some 32) (v := ?_) (a' := ?_) #[true, true, true, true, true, true, true, true, true, true, true, true, true, true, false, true, false, false] rfl rfl (any_of HT_.out (by kernel_rfl)) (fun _ _ _ h => h) (Or.inl ⟨by rfl, ?_⟩) ?_ ?_
      rotate_left
      ·intro w'
       go_simp; with_reducible rfl
      rotate_left
      ·simp only [Act.put, List.setIfInBounds_toArray, List.set_cons_zero, List.set_cons_succ, i64_w, i32_w]
       rfl
      refine pure_ (i := 14) (N := some 33) (v := ?_) (a' := ?_) #[true, true, true, true, true, true, true, true, true, true, true, true, true, true, true, true, false, false] rfl rfl (any_of HT_.out (by kernel_rfl)) (fun _ _ _ h => h) (Or.inl ⟨by rfl, ?_⟩) ?_ ?_
      rotate_left
      ·intro w'
       go_simp; with_reducible rfl
      rotate_left
      ·simp only [Act.put, List.setIfInBounds_toArray, List.set_cons_zero, List.set_cons_succ, i64_w, i32_w]
       rfl
      exact norm_ (by simp only [putAll, Act.put, List.setIfInBounds_toArray, List.set_cons_zero, List.set_cons_succ]) (hCont (gb200) _ ⟨hHeld, kA, kA, kA, kA, kA, GW200.out, GE200.out, NB184_200.out, NB200_184.out, NB189_200.out, NB200_189.out, NB190_200.out, NB200_190.out, NB194_200.out, NB200_194.out, bA⟩)
    ·skip
     refine box_step ?hg (N := 7) ?hd (cs := #[.int .u64 0, .int .u64 0]) (t := 87) ?hr ?_; (case hd => rfl); (case hg => rfl); (case hr => first | (go_simp; done) | (go_simp; rfl))
     intro gb200 hg w60 hbox hb
     have n0_ := Aside0.mk (blk_below (g := gb184) kA hb); have n1_ := Aside0.mk (blk_below (g := gb189) kA hb); have n2_ := Aside0.mk (blk_below (g := gb190) kA hb); have n3_ := Aside0.mk (blk_below (g := gb194) kA hb); have n4_ := Aside0.mk (below_step bA hb); have n5_ := Aside0.mk (hbox); have n6_ := Aside0.mk (gwA hg bA); have n7_ := Aside0.mk (gwA hg bA); have n8_ := Aside0.mk (neA (g := gb184) hg kA); have n9_ := Aside0.mk (neB (g := gb184) hg kA); have n10_ := Aside0.mk (neA (g := gb189) hg kA); have n11_ := Aside0.mk (neB (g := gb189) hg kA); have n12_ := Aside0.mk (neA (g := gb190) hg kA); have n13_ := Aside0.mk (neB (g := gb190) hg kA); have n14_ := Aside0.mk (neA (g := gb194) hg kA); have n15_ := Aside0.mk (neB (g := gb194) hg kA); clear BK184 BK189 BK190 BK194 HB; have BK184 := n0_; have BK189 := n1_; have BK190 := n2_; have BK194 := n3_; have HB := n4_; have BK200 := n5_; have GW200 := n6_; have GE200 := n7_; have NB184_200 := n8_; have NB200_184 := n9_; have NB189_200 := n10_; have NB200_189 := n11_; have NB190_200 := n12_; have NB200_190 := n13_; have NB194_200 := n14_; have NB200_194 := n15_; clear n0_ n1_ n2_ n3_ n4_ n5_ n6_ n7_ n8_ n9_ n10_ n11_ n12_ n13_ n14_ n15_ hb hbox hg
     refine hK.out _ _ ⟨(blk_cell BK190.out 0).trans rfl, (blk_cell BK190.out 1).trans rfl, (blk_cell BK184.out 0).trans rfl, (blk_cell BK184.out 1).trans rfl, (blk_cell BK184.out 2).trans rfl, (blk_cell BK184.out 3).trans rfl, (blk_cell BK184.out 4).trans rfl, (blk_cell BK184.out 5).trans rfl, (blk_cell BK184.out 6).trans rfl, (blk_cell BK184.out 7).trans rfl⟩ (fun hHeld => ?_)
     clear hK K
     refine norm_ (a' := ?_) ?_ ?_
     rotate_left
     ·show Act.put _ (some 7) _ = _
      simp only [Act.put, List.setIfInBounds_toArray, List.set_cons_zero, List.set_cons_succ, i64_w, i32_w]
      rfl
     refine one_ (i := 8) (N := some 28) #[true, true, true, true, true, true, true, true, true, false, false, false, false, false, false, true, false, false] rfl rfl (one_of HT_.out (by kernel_rfl)) (by decide) (fun K hK => ?_)
     refine goes_ Tryd.func65 (by kernel_rfl) rfl #[.agg #[.int .i64 a0_0, .int .i64 a0_1, .int .i64 a0_2, .int .i64 a0_3, .int .i64 a0_4, .int .i64 a0_5, .int .i64 a0_6, .int .i64 a0_7]] (by rfl) rfl rfl aA ?_
     with_reducible refine (config_asked_fairSize.calls a0_0 a0_1 a0_2 a0_3 a0_4 a0_5 a0_6 a0_7 t196 _ A5.out).mono ?_
     rintro e w61 ⟨rfl, hb⟩
     refine ⟨_, rfl, ?_⟩; have n0_ := Aside0.mk (blk_below (g := gb184) kA hb); have n1_ := Aside0.mk (blk_below (g := gb189) kA hb); have n2_ := Aside0.mk (blk_below (g := gb190) kA hb); have n3_ := Aside0.mk (blk_below (g := gb194) kA hb); have n4_ := Aside0.mk (blk_below (g := gb200) kA hb); have n5_ := Aside0.mk (below_step bA hb); clear BK184 BK189 BK190 BK194 BK200 HB; have BK184 := n0_; have BK189 := n1_; have BK190 := n2_; have BK194 := n3_; have BK200 := n4_; have HB := n5_; clear n0_ n1_ n2_ n3_ n4_ n5_; (try clear hb)
     refine hK.out _ _ ⟨(blk_cell BK190.out 0).trans rfl, (blk_cell BK190.out 1).trans rfl, (blk_cell BK184.out 0).trans rfl, (blk_cell BK184.out 1).trans rfl, (blk_cell BK184.out 2).trans rfl, (blk_cell BK184.out 3).trans rfl, (blk_cell BK184.out 4).trans rfl, (blk_cell BK184.out 5).trans rfl, (blk_cell BK184.out 6).trans rfl, (blk_cell BK184.out 7).trans rfl⟩ (fun hHeld => ?_)
     clear hK K
     refine norm_ (a' := ?_) ?_ ?_
     rotate_left
     ·show Act.put _ (some 28) _ = _
      simp only [Act.put, List.setIfInBounds_toArray, List.set_cons_zero, List.set_cons_succ, i64_w, i32_w]
      rfl
     refine pure_ (i := 9) (N := some 29) (v := ?_) (a' := ?_) #[true, true, true, true, true, true, true, true, true, true, false, false, false, false, false, true, false, false] rfl rfl (any_of HT_.out (by kernel_rfl)) (fun _ _ _ h => h) (Or.inl ⟨by rfl, ?_⟩) ?_ ?_
     rotate_left
     ·intro w'
      go_simp; with_reducible rfl
     rotate_left
     ·simp only [Act.put, List.setIfInBounds_toArray, List.set_cons_zero, List.set_cons_succ, i64_w, i32_w]
      rfl
     refine pure_ (i := 10) (N := some 30) (v := ?_) (a' := ?_) #[true, true, true, true, true, true, true, true, true, true, true, false, false, false, false, true, false, false] rfl rfl (any_of HT_.out (by kernel_rfl)) (fun _ _ _ h => h) (Or.inl ⟨by rfl, ?_⟩) ?_ ?_
     rotate_left
     ·intro w'
      go_simp; with_reducible rfl
     rotate_left
     ·simp only [Act.put, List.setIfInBounds_toArray, List.set_cons_zero, List.set_cons_succ, i64_w, i32_w]
      rfl
     refine one_ (i := 11) (N := some 31) #[true, true, true, true, true, true, true, true, true, true, true, true, false, false, false, true, false, false] rfl rfl (one_of HT_.out (by kernel_rfl)) (by decide) (fun K hK => ?_)
     refine goes_ Tryd.func67 (by kernel_rfl) rfl #[.agg #[.int .u64 t187, .int .u64 t188], .int .u64 (IntKind.u64.wrap (wrap64 ((wrap64 (a0_3 * t195)) + t196)))] (by rfl) rfl rfl aA ?_
     with_reducible refine (wide_Times.calls t187 t188 (IntKind.u64.wrap (wrap64 ((wrap64 (a0_3 * t195)) + t196))) t197 t198 t199 _ A6.out).mono ?_
     rintro e w62 ⟨rfl, hb⟩
     refine ⟨_, rfl, ?_⟩; have n0_ := Aside0.mk (blk_below (g := gb184) kA hb); have n1_ := Aside0.mk (blk_below (g := gb189) kA hb); have n2_ := Aside0.mk (blk_below (g := gb190) kA hb); have n3_ := Aside0.mk (blk_below (g := gb194) kA hb); have n4_ := Aside0.mk (blk_below (g := gb200) kA hb); have n5_ := Aside0.mk (below_step bA hb); clear BK184 BK189 BK190 BK194 BK200 HB; have BK184 := n0_; have BK189 := n1_; have BK190 := n2_; have BK194 := n3_; have BK200 := n4_; have HB := n5_; clear n0_ n1_ n2_ n3_ n4_ n5_; (try clear hb)
     refine hK.out _ _ ⟨(blk_cell BK190.out 0).trans rfl, (blk_cell BK190.out 1).trans rfl, (blk_cell BK184.out 0).trans rfl, (blk_cell BK184.out 1).trans rfl, (blk_cell BK184.out 2).trans rfl, (blk_cell BK184.out 3).trans rfl, (blk_cell BK184.out 4).trans rfl, (blk_cell BK184.out 5).trans rfl, (blk_cell BK184.out 6).trans rfl, (blk_cell BK184.out 7).trans rfl⟩ (fun hHeld => ?_)
     clear hK K
     refine norm_ (a' := ?_) ?_ ?_
     rotate_left
     ·show Act.put _ (some 31) _ = _
      simp only [Act.put, List.setIfInBounds_toArray, List.set_cons_zero, List.set_cons_succ, i64_w, i32_w]
      rfl
     refine pure_ (i := 12) (N := some 19) (v := ?_) (a' := ?_) #[true, true, true, true, true, true, true, true, true, true, true, true, true, false, false, true, false, false] rfl rfl (any_of HT_.out (by kernel_rfl)) (fun _ _ _ h => h) (Or.inl ⟨by rfl, ?_⟩) ?_ ?_
     rotate_left
     ·intro w'
      go_simp; with_reducible rfl
     rotate_left
     ·simp only [Act.put, List.setIfInBounds_toArray, List.set_cons_zero, List.set_cons_succ, i64_w, i32_w]
      rfl
     refine pure_ (i := 13) (N := some 32) (v := ?_) (a' := ?_) #[true, true, true, true, true, true, true, true, true, true, true, true, true, true, false, true, false, false] rfl rfl (any_of HT_.out (by kernel_rfl)) (fun _ _ _ h => h) (Or.inl ⟨by rfl, ?_⟩) ?_ ?_
     rotate_left
     ·intro w'
      go_simp; with_reducible rfl
     rotate_left
     ·simp only [Act.put, List.setIfInBounds_toArray, List.set_cons_zero, List.set_cons_succ, i64_w, i32_w]
      rfl
     refine pure_ (i := 14) (N := some 33) (v := ?_) (a' := ?_) #[true, true, true, true, true, true, true, true, true, true, true, true, true, true, true, true, false, false] rfl rfl (any_of HT_.out (by kernel_rfl)) (fun _ _ _ h => h) (Or.inl ⟨by rfl, ?_⟩) ?_ ?_
     rotate_left
     ·intro w'
      go_simp; with_reducible rfl
     rotate_left
     ·simp only [Act.put, List.setIfInBounds_toArray, List.set_cons_zero, List.set_cons_succ, i64_w, i32_w]
      rfl
     exact norm_ (by simp only [putAll, Act.put, List.setIfInBounds_toArray, List.set_cons_zero, List.set_cons_succ]) (hCont (gb200) _ ⟨hHeld, kA, kA, kA, kA, kA, GW200.out, GE200.out, NB184_200.out, NB200_184.out, NB189_200.out, NB200_189.out, NB190_200.out, NB200_190.out, NB194_200.out, NB200_194.out, bA⟩)
   ·skip
    refine box_step ?hg (N := 7) ?hd (cs := #[.int .u64 0, .int .u64 0]) (t := 87) ?hr ?_; (case hd => rfl); (case hg => rfl); (case hr => first | (go_simp; done) | (go_simp; rfl))
    intro gb200 hg w59 hbox hb
    have n0_ := Aside0.mk (blk_below (g := gb184) kA hb); have n1_ := Aside0.mk (blk_below (g := gb189) kA hb); have n2_ := Aside0.mk (blk_below (g := gb190) kA hb); have n3_ := Aside0.mk (blk_below (g := gb194) kA hb); have n4_ := Aside0.mk (below_step bA hb); have n5_ := Aside0.mk (hbox); have n6_ := Aside0.mk (gwA hg bA); have n7_ := Aside0.mk (gwA hg bA); have n8_ := Aside0.mk (neA (g := gb184) hg kA); have n9_ := Aside0.mk (neB (g := gb184) hg kA); have n10_ := Aside0.mk (neA (g := gb189) hg kA); have n11_ := Aside0.mk (neB (g := gb189) hg kA); have n12_ := Aside0.mk (neA (g := gb190) hg kA); have n13_ := Aside0.mk (neB (g := gb190) hg kA); have n14_ := Aside0.mk (neA (g := gb194) hg kA); have n15_ := Aside0.mk (neB (g := gb194) hg kA); clear BK184 BK189 BK190 BK194 HB; have BK184 := n0_; have BK189 := n1_; have BK190 := n2_; have BK194 := n3_; have HB := n4_; have BK200 := n5_; have GW200 := n6_; have GE200 := n7_; have NB184_200 := n8_; have NB200_184 := n9_; have NB189_200 := n10_; have NB200_189 := n11_; have NB190_200 := n12_; have NB200_190 := n13_; have NB194_200 := n14_; have NB200_194 := n15_; clear n0_ n1_ n2_ n3_ n4_ n5_ n6_ n7_ n8_ n9_ n10_ n11_ n12_ n13_ n14_ n15_ hb hbox hg
    refine hK.out _ _ ⟨(blk_cell BK190.out 0).trans rfl, (blk_cell BK190.out 1).trans rfl, (blk_cell BK184.out 0).trans rfl, (blk_cell BK184.out 1).trans rfl, (blk_cell BK184.out 2).trans rfl, (blk_cell BK184.out 3).trans rfl, (blk_cell BK184.out 4).trans rfl, (blk_cell BK184.out 5).trans rfl, (blk_cell BK184.out 6).trans rfl, (blk_cell BK184.out 7).trans rfl⟩ (fun hHeld => ?_)
    clear hK K
    refine norm_ (a' := ?_) ?_ ?_
    rotate_left
    ·show Act.put _ (some 7) _ = _
     simp only [Act.put, List.setIfInBounds_toArray, List.set_cons_zero, List.set_cons_succ, i64_w, i32_w]
     rfl
    refine one_ (i := 5) (N := some 25) #[true, true, true, true, true, true, false, true, false, false, false, false, false, false, false, true, false, false] rfl rfl (one_of HT_.out (by kernel_rfl)) (by decide) (fun K hK => ?_)
    refine goes_ Tryd.func68 (by kernel_rfl) rfl #[.agg #[.int .i64 a0_0, .int .i64 a0_1, .int .i64 a0_2, .int .i64 a0_3, .int .i64 a0_4, .int .i64 a0_5, .int .i64 a0_6, .int .i64 a0_7]] (by rfl) rfl rfl aA ?_
    with_reducible refine (config_asked_bound.calls a0_0 a0_1 a0_2 a0_3 a0_4 a0_5 a0_6 a0_7 t195 _ A4.out).mono ?_
    rintro e w60 ⟨rfl, hb⟩
    refine ⟨_, rfl, ?_⟩; have n0_ := Aside0.mk (blk_below (g := gb184) kA hb); have n1_ := Aside0.mk (blk_below (g := gb189) kA hb); have n2_ := Aside0.mk (blk_below (g := gb190) kA hb); have n3_ := Aside0.mk (blk_below (g := gb194) kA hb); have n4_ := Aside0.mk (blk_below (g := gb200) kA hb); have n5_ := Aside0.mk (below_step bA hb); clear BK184 BK189 BK190 BK194 BK200 HB; have BK184 := n0_; have BK189 := n1_; have BK190 := n2_; have BK194 := n3_; have BK200 := n4_; have HB := n5_; clear n0_ n1_ n2_ n3_ n4_ n5_; (try clear hb)
    refine hK.out _ _ ⟨(blk_cell BK190.out 0).trans rfl, (blk_cell BK190.out 1).trans rfl, (blk_cell BK184.out 0).trans rfl, (blk_cell BK184.out 1).trans rfl, (blk_cell BK184.out 2).trans rfl, (blk_cell BK184.out 3).trans rfl, (blk_cell BK184.out 4).trans rfl, (blk_cell BK184.out 5).trans rfl, (blk_cell BK184.out 6).trans rfl, (blk_cell BK184.out 7).trans rfl⟩ (fun hHeld => ?_)
    clear hK K
    refine norm_ (a' := ?_) ?_ ?_
    rotate_left
    ·show Act.put _ (some 25) _ = _
     simp only [Act.put, List.setIfInBounds_toArray, List.set_cons_zero, List.set_cons_succ, i64_w, i32_w]
     rfl
    refine pure_ (i := 6) (N := some 26) (v := ?_) (a' := ?_) #[true, true, true, true, true, true, true, true, false, false, false, false, false, false, false, true, false, false] rfl rfl (any_of HT_.out (by kernel_rfl)) (fun _ _ _ h => h) (Or.inl ⟨by rfl, ?_⟩) ?_ ?_
    rotate_left
    ·intro w'
     go_simp; with_reducible rfl
    rotate_left
    ·simp only [Act.put, List.setIfInBounds_toArray, List.set_cons_zero, List.set_cons_succ, i64_w, i32_w]
     rfl
    refine one_ (i := 8) (N := some 28) #[true, true, true, true, true, true, true, true, true, false, false, false, false, false, false, true, false, false] rfl rfl (one_of HT_.out (by kernel_rfl)) (by decide) (fun K hK => ?_)
    refine goes_ Tryd.func65 (by kernel_rfl) rfl #[.agg #[.int .i64 a0_0, .int .i64 a0_1, .int .i64 a0_2, .int .i64 a0_3, .int .i64 a0_4, .int .i64 a0_5, .int .i64 a0_6, .int .i64 a0_7]] (by rfl) rfl rfl aA ?_
    with_reducible refine (config_asked_fairSize.calls a0_0 a0_1 a0_2 a0_3 a0_4 a0_5 a0_6 a0_7 t196 _ A5.out).mono ?_
    rintro e w61 ⟨rfl, hb⟩
    refine ⟨_, rfl, ?_⟩; have n0_ := Aside0.mk (blk_below (g := gb184) kA hb); have n1_ := Aside0.mk (blk_below (g := gb189) kA hb); have n2_ := Aside0.mk (blk_below (g := gb190) kA hb); have n3_ := Aside0.mk (blk_below (g := gb194) kA hb); have n4_ := Aside0.mk (blk_below (g := gb200) kA hb); have n5_ := Aside0.mk (below_step bA hb); clear BK184 BK189 BK190 BK194 BK200 HB; have BK184 := n0_; have BK189 := n1_; have BK190 := n2_; have BK194 := n3_; have BK200 := n4_; have HB := n5_; clear n0_ n1_ n2_ n3_ n4_ n5_; (try clear hb)
    refine hK.out _ _ ⟨(blk_cell BK190.out 0).trans rfl, (blk_cell BK190.out 1).trans rfl, (blk_cell BK184.out 0).trans rfl, (blk_cell BK184.out 1).trans rfl, (blk_cell BK184.out 2).trans rfl, (blk_cell BK184.out 3).trans rfl, (blk_cell BK184.out 4).trans rfl, (blk_cell BK184.out 5).trans rfl, (blk_cell BK184.out 6).trans rfl, (blk_cell BK184.out 7).trans rfl⟩ (fun hHeld => ?_)
    clear hK K
    refine norm_ (a' := ?_) ?_ ?_
    rotate_left
    ·show Act.put _ (some 28) _ = _
     simp only [Act.put, List.setIfInBounds_toArray, List.set_cons_zero, List.set_cons_succ, i64_w, i32_w]
     rfl
    refine pure_ (i := 9) (N := some 29) (v := ?_) (a' := ?_) #[true, true, true, true, true, true, true, true, true, true, false, false, false, false, false, true, false, false] rfl rfl (any_of HT_.out (by kernel_rfl)) (fun _ _ _ h => h) (Or.inl ⟨by rfl, ?_⟩) ?_ ?_
    rotate_left
    ·intro w'
     go_simp; with_reducible rfl
    rotate_left
    ·simp only [Act.put, List.setIfInBounds_toArray, List.set_cons_zero, List.set_cons_succ, i64_w, i32_w]
     rfl
    refine pure_ (i := 10) (N := some 30) (v := ?_) (a' := ?_) #[true, true, true, true, true, true, true, true, true, true, true, false, false, false, false, true, false, false] rfl rfl (any_of HT_.out (by kernel_rfl)) (fun _ _ _ h => h) (Or.inl ⟨by rfl, ?_⟩) ?_ ?_
    rotate_left
    ·intro w'
     go_simp; with_reducible rfl
    rotate_left
    ·simp only [Act.put, List.setIfInBounds_toArray, List.set_cons_zero, List.set_cons_succ, i64_w, i32_w]
     rfl
    refine one_ (i := 11) (N := some 31) #[true, true, true, true, true, true, true, true, true, true, true, true, false, false, false, true, false, false] rfl rfl (one_of HT_.out (by kernel_rfl)) (by decide) (fun K hK => ?_)
    refine goes_ Tryd.func67 (by kernel_rfl) rfl #[.agg #[.int .u64 t187, .int .u64 t188], .int .u64 (IntKind.u64.wrap (wrap64 ((wrap64 (a0_3 * t195)) + t196)))] (by rfl) rfl rfl aA ?_
    with_reducible refine (wide_Times.calls t187 t188 (IntKind.u64.wrap (wrap64 ((wrap64 (a0_3 * t195)) + t196))) t197 t198 t199 _ A6.out).mono ?_
    rintro e w62 ⟨rfl, hb⟩
    refine ⟨_, rfl, ?_⟩; have n0_ := Aside0.mk (blk_below (g := gb184) kA hb); have n1_ := Aside0.mk (blk_below (g := gb189) kA hb); have n2_ := Aside0.mk (blk_below (g := gb190) kA hb); have n3_ := Aside0.mk (blk_below (g := gb194) kA hb); have n4_ := Aside0.mk (blk_below (g := gb200) kA hb); have n5_ := Aside0.mk (below_step bA hb); clear BK184 BK189 BK190 BK194 BK200 HB; have BK184 := n0_; have BK189 := n1_; have BK190 := n2_; have BK194 := n3_; have BK200 := n4_; have HB := n5_; clear n0_ n1_ n2_ n3_ n4_ n5_; (try clear hb)
    refine hK.out _ _ ⟨(blk_cell BK190.out 0).trans rfl, (blk_cell BK190.out 1).trans rfl, (blk_cell BK184.out 0).trans rfl, (blk_cell BK184.out 1).trans rfl, (blk_cell BK184.out 2).trans rfl, (blk_cell BK184.out 3).trans rfl, (blk_cell BK184.out 4).trans rfl, (blk_cell BK184.out 5).trans rfl, (blk_cell BK184.out 6).trans rfl, (blk_cell BK184.out 7).trans rfl⟩ (fun hHeld => ?_)
    clear hK K
    refine norm_ (a' := ?_) ?_ ?_
    rotate_left
    ·show Act.put _ (some 31) _ = _
     simp only [Act.put, List.setIfInBounds_toArray, List.set_cons_zero, List.set_cons_succ, i64_w, i32_w]
     rfl
    refine pure_ (i := 12) (N := some 19) (v := ?_) (a' := ?_) #[true, true, true, true, true, true, true, true, true, true, true, true, true, false, false, true, false, false] rfl rfl (any_of HT_.out (by kernel_rfl)) (fun _ _ _ h => h) (Or.inl ⟨by rfl, ?_⟩) ?_ ?_
    rotate_left
    ·intro w'
     go_simp; with_reducible rfl
    rotate_left
    ·simp only [Act.put, List.setIfInBounds_toArray, List.set_cons_zero, List.set_cons_succ, i64_w, i32_w]
     rfl
    refine pure_ (i := 13) (N := some 32) (v := ?_) (a' := ?_) #[true, true, true, true, true, true, true, true, true, true, true, true, true, true, false, true, false, false] rfl rfl (any_of HT_.out (by kernel_rfl)) (fun _ _ _ h => h) (Or.inl ⟨by rfl, ?_⟩) ?_ ?_
    rotate_left
    ·intro w'
     go_simp; with_reducible rfl
    rotate_left
    ·simp only [Act.put, List.setIfInBounds_toArray, List.set_cons_zero, List.set_cons_succ, i64_w, i32_w]
     rfl
    refine pure_ (i := 14) (N := some 33) (v := ?_) (a' := ?_) #[true, true, true, true, true, true, true, true, true, true, true, true, true, true, true, true, false, false] rfl rfl (any_of HT_.out (by kernel_rfl)) (fun _ _ _ h => h) (Or.inl ⟨by rfl, ?_⟩) ?_ ?_
    rotate_left
    ·intro w'
     go_simp; with_reducible rfl
    rotate_left
    ·simp only [Act.put, List.setIfInBounds_toArray, List.set_cons_zero, List.set_cons_succ, i64_w, i32_w]
     rfl
    exact norm_ (by simp only [putAll, Act.put, List.setIfInBounds_toArray, List.set_cons_zero, List.set_cons_succ]) (hCont (gb200) _ ⟨hHeld, kA, kA, kA, kA, kA, GW200.out, GE200.out, NB184_200.out, NB200_184.out, NB189_200.out, NB200_189.out, NB190_200.out, NB200_190.out, NB194_200.out, NB200_194.out, bA⟩)
  rintro gb200 w63 ⟨hS_, h0_, h1_, h2_, h3_, h4_, h5_, h6_, h7_, h8_, h9_, h10_, h11_, h12_, h13_, h14_, h15_⟩
  have n0_ : Aside0 (w63.heap[gb184]? = some (.cells #[.int .i64 a0_0, .int .i64 a0_1, .int .i64 a0_2, .int .i64 a0_3, .int .i64 a0_4, .int .i64 a0_5, .int .i64 a0_6, .int .i64 a0_7] 77 (0, 0))) := ⟨h0_⟩
  have n1_ : Aside0 (w63.heap[gb189]? = some (.cells #[.int .u64 t185, .int .u64 t186] 87 (0, 0))) := ⟨h1_⟩
  have n2_ : Aside0 (w63.heap[gb190]? = some (.cells #[.int .u64 t187, .int .u64 t188] 87 (0, 0))) := ⟨h2_⟩
  have n3_ : Aside0 (w63.heap[gb194]? = some (.cells #[.int .u64 t191, .int .u64 t192] 87 (0, 0))) := ⟨h3_⟩
  have n4_ : Aside0 (w63.heap[gb200]? = some (.cells #[.int .u64 0, .int .u64 0] 87 (0, 0))) := ⟨h4_⟩
  have n5_ : Aside0 (w.heap.size ≤ gb200) := ⟨h5_⟩
  have n6_ : Aside0 (w.heap.size ≤ gb200) := ⟨h6_⟩
  have n7_ : Aside0 (gb184 ≠ gb200) := ⟨h7_⟩
  have n8_ : Aside0 (gb200 ≠ gb184) := ⟨h8_⟩
  have n9_ : Aside0 (gb189 ≠ gb200) := ⟨h9_⟩
  have n10_ : Aside0 (gb200 ≠ gb189) := ⟨h10_⟩
  have n11_ : Aside0 (gb190 ≠ gb200) := ⟨h11_⟩
  have n12_ : Aside0 (gb200 ≠ gb190) := ⟨h12_⟩
  have n13_ : Aside0 (gb194 ≠ gb200) := ⟨h13_⟩
  have n14_ : Aside0 (gb200 ≠ gb194) := ⟨h14_⟩
  have n15_ : Aside0 (Below w.heap.size w w63) := ⟨h15_⟩
  clear BK184 BK189 BK190 BK194 HB h0_ h1_ h2_ h3_ h4_ h5_ h6_ h7_ h8_ h9_ h10_ h11_ h12_ h13_ h14_ h15_; have BK184 := n0_; have BK189 := n1_; have BK190 := n2_; have BK194 := n3_; have BK200 := n4_; have GW200 := n5_; have GE200 := n6_; have NB184_200 := n7_; have NB200_184 := n8_; have NB189_200 := n9_; have NB200_189 := n10_; have NB190_200 := n11_; have NB200_190 := n12_; have NB194_200 := n13_; have NB200_194 := n14_; have HB := n15_; clear n0_ n1_ n2_ n3_ n4_ n5_ n6_ n7_ n8_ n9_ n10_ n11_ n12_ n13_ n14_ n15_
  have hHeld : w63.cell? ⟨gb190, 0, none⟩ = some (.int .u64 t187) ∧ w63.cell? ⟨gb190, 1, none⟩ = some (.int .u64 t188) ∧ w63.cell? ⟨gb184, 0, none⟩ = some (.int .i64 a0_0) ∧ w63.cell? ⟨gb184, 1, none⟩ = some (.int .i64 a0_1) ∧ w63.cell? ⟨gb184, 2, none⟩ = some (.int .i64 a0_2) ∧ w63.cell? ⟨gb184, 3, none⟩ = some (.int .i64 a0_3) ∧ w63.cell? ⟨gb184, 4, none⟩ = some (.int .i64 a0_4) ∧ w63.cell? ⟨gb184, 5, none⟩ = some (.int .i64 a0_5) ∧ w63.cell? ⟨gb184, 6, none⟩ = some (.int .i64 a0_6) ∧ w63.cell? ⟨gb184, 7, none⟩ = some (.int .i64 a0_7) := hS_
  refine norm_ (a' := ?_) ?_ ?_
  rotate_left
  ·simp only [putAll, Act.put, List.setIfInBounds_toArray, List.set_cons_zero, List.set_cons_succ]
   rfl
  refine one_ (i := 16) (N := none) #[true, true, true, true, true, true, true, true, true, true, true, true, true, true, true, true, true, false] rfl rfl (one_of HT_.out (by kernel_rfl)) (by decide) (fun K hK => ?_)
  have hs64 : w63.cell? ⟨gb200, 0, none⟩ = some (.int .u64 0) := (blk_cell BK200.out 0).trans rfl
  have hfs64 := blk_frozen BK200.out 0
  have hns64_0 := NB184_200.out
  have hns64_1 := NB189_200.out
  have hns64_2 := NB190_200.out
  have hns64_3 := NB194_200.out
  have hms64_0 := NB200_184.out
  have hms64_1 := NB200_189.out
  have hms64_2 := NB200_190.out
  have hms64_3 := NB200_194.out
  have hs65 : w63.cell? ⟨gb200, 1, none⟩ = some (.int .u64 0) := (blk_cell BK200.out 1).trans rfl
  have hfs65 := blk_frozen BK200.out 1
  have hns65_0 := NB184_200.out
  have hns65_1 := NB189_200.out
  have hns65_2 := NB190_200.out
  have hns65_3 := NB194_200.out
  have hms65_0 := NB200_184.out
  have hms65_1 := NB200_189.out
  have hms65_2 := NB200_190.out
  have hms65_3 := NB200_194.out
  refine skip_ (w1 := ?_) (by rfl) rfl ?_ ?_
  rotate_left
  ·go_simp
   rfl
  refine hK.out _ _ ⟨((cell_far (p := ⟨gb200, _, none⟩) NB190_200.out _).trans (((cell_far (p := ⟨gb200, _, none⟩) NB190_200.out _).trans (hHeld.1)))), ((cell_far (p := ⟨gb200, _, none⟩) NB190_200.out _).trans (((cell_far (p := ⟨gb200, _, none⟩) NB190_200.out _).trans (hHeld.2.1)))), ((cell_far (p := ⟨gb200, _, none⟩) NB184_200.out _).trans (((cell_far (p := ⟨gb200, _, none⟩) NB184_200.out _).trans (hHeld.2.2.1)))), ((cell_far (p := ⟨gb200, _, none⟩) NB184_200.out _).trans (((cell_far (p := ⟨gb200, _, none⟩) NB184_200.out _).trans (hHeld.2.2.2.1)))), ((cell_far (p := ⟨gb200, _, none⟩) NB184_200.out _).trans (((cell_far (p := ⟨gb200, _, none⟩) NB184_200.out _).trans (hHeld.2.2.2.2.1)))), ((cell_far (p := ⟨gb200, _, none⟩) NB184_200.out _).trans (((cell_far (p := ⟨gb200, _, none⟩) NB184_200.out _).trans (hHeld.2.2.2.2.2.1)))), ((cell_far (p := ⟨gb200, _, none⟩) NB184_200.out _).trans (((cell_far (p := ⟨gb200, _, none⟩) NB184_200.out _).trans (hHeld.2.2.2.2.2.2.1)))), ((cell_far (p := ⟨gb200, _, none⟩) NB184_200.out _).trans (((cell_far (p := ⟨gb200, _, none⟩) NB184_200.out _).trans (hHeld.2.2.2.2.2.2.2.1)))), ((cell_far (p := ⟨gb200, _, none⟩) NB184_200.out _).trans (((cell_far (p := ⟨gb200, _, none⟩) NB184_200.out _).trans (hHeld.2.2.2.2.2.2.2.2.1)))), ((cell_far (p := ⟨gb200, _, none⟩) NB184_200.out _).trans (((cell_far (p := ⟨gb200, _, none⟩) NB184_200.out _).trans (hHeld.2.2.2.2.2.2.2.2.2))))⟩ (fun hHeld => ?_)
  clear hK K
  refine pure_ (i := 17) (N := some 8) (v := ?_) (a' := ?_) #[true, true, true, true, true, true, true, true, true, true, true, true, true, true, true, true, true, true] rfl rfl (any_of HT_.out (by kernel_rfl)) (fun _ _ _ h => h) (Or.inl ⟨by rfl, ?_⟩) ?_ ?_
  rotate_left
  ·intro w'
   go_simp; with_reducible rfl
  rotate_left
  ·simp only [Act.put, List.setIfInBounds_toArray, List.set_cons_zero, List.set_cons_succ, i64_w, i32_w]
   rfl
  refine done_ (done_of HT_.out (by kernel_rfl)) ?_
  have hnb66 := NB194_200.out
  have hnc66 := NB200_194.out
  have hcz67_0 : w63.cell? ⟨gb194, 0, none⟩ = some (.int .u64 t191) := (blk_cell BK194.out 0).trans rfl
  have hcz67_1 : w63.cell? ⟨gb194, 1, none⟩ = some (.int .u64 t192) := (blk_cell BK194.out 1).trans rfl
  have hfz67_0 := blk_frozen BK194.out 0
  have hfz67_1 := blk_frozen BK194.out 1
  have hnb68 := NB200_184.out
  have hnc68 := NB184_200.out
  have hnb69 := NB200_189.out
  have hnc69 := NB189_200.out
  have hnb70 := NB200_190.out
  have hnc70 := NB190_200.out
  have hcz71_0 : w63.cell? ⟨gb200, 0, none⟩ = some (.int .u64 0) := (blk_cell BK200.out 0).trans rfl
  have hcz71_1 : w63.cell? ⟨gb200, 1, none⟩ = some (.int .u64 0) := (blk_cell BK200.out 1).trans rfl
  have hfz71_0 := blk_frozen BK200.out 0
  have hfz71_1 := blk_frozen BK200.out 1
  try go_wp2_with (first | ((with_reducible refine gate_callee (f := 69) rfl ?_); refine goesL_ (some 36) rfl rfl Tryd.func69 (by kernel_rfl) rfl #[.agg #[.int .u64 t191, .int .u64 t192], .agg #[.int .u64 t197, .int .u64 t198]] rfl aA ?_; (with_reducible refine (wide_Cmp.calls t191 t192 t197 t198 t201 _ A7.out).mono ?_); rintro e w72 ⟨rfl, hb⟩; refine ⟨_, rfl, ?_⟩; have n0_ := Aside0.mk (blk_below (g := gb184) (o := .cells #[.int .i64 a0_0, .int .i64 a0_1, .int .i64 a0_2, .int .i64 a0_3, .int .i64 a0_4, .int .i64 a0_5, .int .i64 a0_6, .int .i64 a0_7] 77 (0, 0)) (by (with_reducible repeat (first | refine blk_drewN ?_ _ | refine blk_drew ?_ | refine blk_alloc ?_ _)); refine blk_far ?_ NB184_200.out _; (with_reducible repeat (first | refine blk_drewN ?_ _ | refine blk_drew ?_ | refine blk_alloc ?_ _)); refine blk_far ?_ NB184_200.out _; exact kA) hb); have n1_ := Aside0.mk (blk_below (g := gb189) (o := .cells #[.int .u64 t185, .int .u64 t186] 87 (0, 0)) (by (with_reducible repeat (first | refine blk_drewN ?_ _ | refine blk_drew ?_ | refine blk_alloc ?_ _)); refine blk_far ?_ NB189_200.out _; (with_reducible repeat (first | refine blk_drewN ?_ _ | refine blk_drew ?_ | refine blk_alloc ?_ _)); refine blk_far ?_ NB189_200.out _; exact kA) hb); have n2_ := Aside0.mk (blk_below (g := gb190) (o := .cells #[.int .u64 t187, .int .u64 t188] 87 (0, 0)) (by (with_reducible repeat (first | refine blk_drewN ?_ _ | refine blk_drew ?_ | refine blk_alloc ?_ _)); refine blk_far ?_ NB190_200.out _; (with_reducible repeat (first | refine blk_drewN ?_ _ | refine blk_drew ?_ | refine blk_alloc ?_ _)); refine blk_far ?_ NB190_200.out _; exact kA) hb); have n3_ := Aside0.mk (blk_below (g := gb194) (o := .cells #[.int .u64 t191, .int .u64 t192] 87 (0, 0)) (by (with_reducible repeat (first | refine blk_drewN ?_ _ | refine blk_drew ?_ | refine blk_alloc ?_ _)); refine blk_far ?_ NB194_200.out _; (with_reducible repeat (first | refine blk_drewN ?_ _ | refine blk_drew ?_ | refine blk_alloc ?_ _)); refine blk_far ?_ NB194_200.out _; exact kA) hb); have n4_ := Aside0.mk (blk_below (g := gb200) (o := .cells #[.int .u64 t197, .int .u64 t198] 87 (0, 0)) (by (with_reducible repeat (first | refine blk_drewN ?_ _ | refine blk_drew ?_ | refine blk_alloc ?_ _)); refine blk_put (cs := #[.int .u64 t197, .int .u64 0]) ?_ 1 _ rfl; (with_reducible repeat (first | refine blk_drewN ?_ _ | refine blk_drew ?_ | refine blk_alloc ?_ _)); refine blk_put (cs := #[.int .u64 0, .int .u64 0]) ?_ 0 _ rfl; exact kA) hb); have n5_ := Aside0.mk (below_step bA hb); clear BK184 BK189 BK190 BK194 BK200 HB; have BK184 := n0_; have BK189 := n1_; have BK190 := n2_; have BK194 := n3_; have BK200 := n4_; have HB := n5_; clear n0_ n1_ n2_ n3_ n4_ n5_; (try clear hb)))
  go_ret
  exact ⟨by first | rfl | (simp [errW_none, errW_some] <;> rfl) | (simp [*, errW_none, errW_some] <;> rfl), bA⟩

end Go.Proofs.YtgjjfnjnjnbfgaaDoor.GLG
