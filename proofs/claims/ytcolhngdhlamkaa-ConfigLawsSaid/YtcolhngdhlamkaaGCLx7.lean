-- Laid by a program of this session (wip/tools/pr.py): contracts and pure functions; Lean checks it.
import Derived.Test.YtcolhngdhlamkaaGCLx0
import Derived.Test.YtcolhngdhlamkaaGCLx3
import Derived.Test.YtcolhngdhlamkaaGCLx4
import Derived.Test.YtcolhngdhlamkaaGCLx5
import Derived.Test.YtcolhngdhlamkaaGCLx6
namespace Go.Proofs.Ytcolhngdhlamkaa.GCL
open Go.RowKit Go.Proofs.YtcolhngdhlamkaaW.PrintWords Go.Proofs.YtcolhngdhlamkaaW.PrintLast Go.Proofs.YtcolhngdhlamkaaW.PrintMore
attribute [local go_sem] max2_int min2_int max_two min_two max_three min_three max_four min_four   -- for this text's walks alone
set_option linter.unusedVariables false
set_option linter.unusedSimpArgs false

/-! ### config_asked_bounds: function 71 -/
def config_asked_bounds.f (a0_0 : Int) (a0_1 : Int) (a0_2 : Int) (a0_3 : Int) (a0_4 : Int) (a0_5 : Int) (a0_6 : Int) (a0_7 : Int) : Option (Int × Int × Int × Int) := if a0_4 = 0 then ((wide_Of.f 0).bind fun bt159 => ((wide_Of.f 1).bind fun bt161 => (some (bt159.1, bt159.2, bt161.1, bt161.2)))) else ((config_asked_keeps.f a0_0 a0_1 a0_2 a0_3 a0_4 a0_5 a0_6 a0_7).bind fun t163 => ((config_asked_most.f a0_0 a0_1 a0_2 a0_3 a0_4 a0_5 a0_6 a0_7).bind fun t164 => ((config_up.f (wrap64 (t164 * 81)) 2147483648).bind fun t165 => ((config_asked_area.f a0_0 a0_1 a0_2 a0_3 a0_4 a0_5 a0_6 a0_7).bind fun t166 => ((wide_Of.f (IntKind.u64.wrap (t166))).bind fun bt167 => ((wide_Shl.f bt167.1 bt167.2 32).bind fun bt169 => ((wide_Of.f (IntKind.u64.wrap (a0_4))).bind fun bt171 => ((config_asked_area.f a0_0 a0_1 a0_2 a0_3 a0_4 a0_5 a0_6 a0_7).bind fun t173 => ((wide_Times.f bt171.1 bt171.2 (IntKind.u64.wrap (wrap64 ((wrap64 (258048 * (wrap64 (t163 * (wrap64 (1 + t165)))))) + (wrap64 (2 * t173)))))).bind fun bt174 => ((wide_Add.f bt174.1 bt174.2.1 bt169.1 bt169.2).bind fun bt177 => (some (bt177.1, bt177.2.1, bt169.1, bt169.2))))))))))))
def config_asked_bounds.T3 : Bool × List (List Nat × List Nat) := (true, [([], []), ([0], [0]), ([], []), ([2, 1], [2]), ([3], [3]), ([4, 3], [4]), ([5], [5]), ([1, 6], [1, 6]), ([7, 5, 0, 1, 2, 3, 4, 5, 6, 7], [7])])
def config_asked_bounds.B3 : List Nat := [0, 1, 0, 7, 15, 31, 63, 127, 255]
theorem config_asked_bounds.tab3 : rtab .any (opsOf Try.f71 3) = config_asked_bounds.T3 := by kernel_rfl
theorem config_asked_bounds.bits3 : waitsOk config_asked_bounds.T3.2 config_asked_bounds.B3 = true := by kernel_rfl
def config_asked_bounds.T5 : Bool × List (List Nat × List Nat) := (true, [([], []), ([0], [0]), ([1], [1]), ([2], [2]), ([3], [3]), ([], []), ([5], [5]), ([], []), ([7, 4], [7]), ([8], [8]), ([6, 9], [6, 9]), ([10], [10]), ([4, 11, 8], [4, 11]), ([12], [12]), ([13], [13]), ([13], [13]), ([14, 12, 0, 1, 2, 3, 4, 5, 6, 7, 8, 9, 10, 11, 12, 13, 14], [14])])
def config_asked_bounds.B5 : List Nat := [0, 1, 3, 7, 15, 0, 32, 0, 159, 415, 1023, 2047, 4095, 8191, 16383, 16383, 32767]
theorem config_asked_bounds.tab5 : rtab .any (opsOf Try.f71 5) = config_asked_bounds.T5 := by kernel_rfl
theorem config_asked_bounds.bits5 : waitsOk config_asked_bounds.T5.2 config_asked_bounds.B5 = true := by kernel_rfl
set_option maxHeartbeats 8000000 in
set_option maxRecDepth 100000 in
theorem config_asked_bounds.calls (a0_0 : Int) (a0_1 : Int) (a0_2 : Int) (a0_3 : Int) (a0_4 : Int) (a0_5 : Int) (a0_6 : Int) (a0_7 : Int) (r1 : Int) (r2 : Int) (r3 : Int) (r4 : Int) (w : World) (h : config_asked_bounds.f a0_0 a0_1 a0_2 a0_3 a0_4 a0_5 a0_6 a0_7 = some (r1, r2, r3, r4)) :
  Calls Try.prog 71 #[.agg #[.int .i64 a0_0, .int .i64 a0_1, .int .i64 a0_2, .int .i64 a0_3, .int .i64 a0_4, .int .i64 a0_5, .int .i64 a0_6, .int .i64 a0_7]] w fun e w' => e = .returned (.tuple #[.agg #[.int .u64 r1, .int .u64 r2], .agg #[.int .u64 r3, .int .u64 r4]]) ∧ Below w.heap.size w w' := by
 have hu78 := Try.underlying78
 have hu25 := Try.underlying25
 have HB := Aside0.mk (Below.refl w.heap.size w)
 have H : (if a0_4 = 0 then ((wide_Of.f 0).bind fun bt159 => ((wide_Of.f 1).bind fun bt161 => (some (bt159.1, bt159.2, bt161.1, bt161.2)))) else ((config_asked_keeps.f a0_0 a0_1 a0_2 a0_3 a0_4 a0_5 a0_6 a0_7).bind fun t163 => ((config_asked_most.f a0_0 a0_1 a0_2 a0_3 a0_4 a0_5 a0_6 a0_7).bind fun t164 => ((config_up.f (wrap64 (t164 * 81)) 2147483648).bind fun t165 => ((config_asked_area.f a0_0 a0_1 a0_2 a0_3 a0_4 a0_5 a0_6 a0_7).bind fun t166 => ((wide_Of.f (IntKind.u64.wrap (t166))).bind fun bt167 => ((wide_Shl.f bt167.1 bt167.2 32).bind fun bt169 => ((wide_Of.f (IntKind.u64.wrap (a0_4))).bind fun bt171 => ((config_asked_area.f a0_0 a0_1 a0_2 a0_3 a0_4 a0_5 a0_6 a0_7).bind fun t173 => ((wide_Times.f bt171.1 bt171.2 (IntKind.u64.wrap (wrap64 ((wrap64 (258048 * (wrap64 (t163 * (wrap64 (1 + t165)))))) + (wrap64 (2 * t173)))))).bind fun bt174 => ((wide_Add.f bt174.1 bt174.2.1 bt169.1 bt169.2).bind fun bt177 => (some (bt177.1, bt177.2.1, bt169.1, bt169.2))))))))))))) = some (r1, r2, r3, r4) := h
 clear h
 by_cases c2 : a0_4 = 0
 ·rw [if_pos c2] at H
  have c2b0 : (a0_4 == 0) = true := beq_iff_eq.mpr c2
  have c2b1 : (a0_4 != 0) = false := bne_eq_false_iff_eq.mpr c2
  clear c2; replace H := Option.bind_eq_some_iff.mp H; obtain ⟨⟨t159, t160⟩, A30, H⟩ := H; replace H : ((wide_Of.f 1).bind fun bt161 => (some (t159, t160, bt161.1, bt161.2))) = some (r1, r2, r3, r4) := H; have A3 := Aside0.mk A30; clear A30; replace H := Option.bind_eq_some_iff.mp H; obtain ⟨⟨t161, t162⟩, A40, H⟩ := H; replace H : (some (t159, t160, t161, t162)) = some (r1, r2, r3, r4) := H; have A4 := Aside0.mk A40; clear A40
  simp only [Option.some.injEq, Prod.mk.injEq] at H
  obtain ⟨rfl, rfl, rfl, rfl⟩ := H
  go_enter Try.func71, Try.ntmps71
  go_wp2_with (first | ((with_reducible refine gate_dst (N := 1) rfl ?_); refine bxA 1 #[.int .i64 a0_0, .int .i64 a0_1, .int .i64 a0_2, .int .i64 a0_3, .int .i64 a0_4, .int .i64 a0_5, .int .i64 a0_6, .int .i64 a0_7] 78 ?_; intro gb156 hg w5 hbox hb; have n0_ := Aside0.mk (below_step bA hb); have n1_ := Aside0.mk (hbox); have n2_ := Aside0.mk (gwA hg bA); have n3_ := Aside0.mk (gwA hg bA); clear HB; have HB := n0_; have BK156 := n1_; have GW156 := n2_; have GE156 := n3_; clear n0_ n1_ n2_ n3_ hb hbox hg) | ((with_reducible refine gate_dst (N := 2) rfl ?_); refine bxA 2 #[.int .u64 0, .int .u64 0] 25 ?_; intro gb157 hg w6 hbox hb; have n0_ := Aside0.mk (blk_below (g := gb156) kA hb); have n1_ := Aside0.mk (below_step bA hb); have n2_ := Aside0.mk (hbox); have n3_ := Aside0.mk (gwA hg bA); have n4_ := Aside0.mk (gwA hg bA); have n5_ := Aside0.mk (neA (g := gb156) hg kA); have n6_ := Aside0.mk (neB (g := gb156) hg kA); clear BK156 HB; have BK156 := n0_; have HB := n1_; have BK157 := n2_; have GW157 := n3_; have GE157 := n4_; have NB156_157 := n5_; have NB157_156 := n6_; clear n0_ n1_ n2_ n3_ n4_ n5_ n6_ hb hbox hg) | ((with_reducible refine gate_dst (N := 3) rfl ?_); refine bxA 3 #[.int .u64 0, .int .u64 0] 25 ?_; intro gb158 hg w7 hbox hb; have n0_ := Aside0.mk (blk_below (g := gb156) kA hb); have n1_ := Aside0.mk (blk_below (g := gb157) kA hb); have n2_ := Aside0.mk (below_step bA hb); have n3_ := Aside0.mk (hbox); have n4_ := Aside0.mk (gwA hg bA); have n5_ := Aside0.mk (gwA hg bA); have n6_ := Aside0.mk (neA (g := gb156) hg kA); have n7_ := Aside0.mk (neB (g := gb156) hg kA); have n8_ := Aside0.mk (neA (g := gb157) hg kA); have n9_ := Aside0.mk (neB (g := gb157) hg kA); clear BK156 BK157 HB; have BK156 := n0_; have BK157 := n1_; have HB := n2_; have BK158 := n3_; have GW158 := n4_; have GE158 := n5_; have NB156_158 := n6_; have NB158_156 := n7_; have NB157_158 := n8_; have NB158_157 := n9_; clear n0_ n1_ n2_ n3_ n4_ n5_ n6_ n7_ n8_ n9_ hb hbox hg; have hnb8 := NB156_157.out; have hnc8 := NB157_156.out; have hnb9 := NB156_158.out; have hnc9 := NB158_156.out; have hcz10_0 : w7.cell? ⟨gb156, 0, none⟩ = some (.int .i64 a0_0) := (blk_cell BK156.out 0).trans rfl; have hcz10_1 : w7.cell? ⟨gb156, 1, none⟩ = some (.int .i64 a0_1) := (blk_cell BK156.out 1).trans rfl; have hcz10_2 : w7.cell? ⟨gb156, 2, none⟩ = some (.int .i64 a0_2) := (blk_cell BK156.out 2).trans rfl; have hcz10_3 : w7.cell? ⟨gb156, 3, none⟩ = some (.int .i64 a0_3) := (blk_cell BK156.out 3).trans rfl; have hcz10_4 : w7.cell? ⟨gb156, 4, none⟩ = some (.int .i64 a0_4) := (blk_cell BK156.out 4).trans rfl; have hcz10_5 : w7.cell? ⟨gb156, 5, none⟩ = some (.int .i64 a0_5) := (blk_cell BK156.out 5).trans rfl; have hcz10_6 : w7.cell? ⟨gb156, 6, none⟩ = some (.int .i64 a0_6) := (blk_cell BK156.out 6).trans rfl; have hcz10_7 : w7.cell? ⟨gb156, 7, none⟩ = some (.int .i64 a0_7) := (blk_cell BK156.out 7).trans rfl; have hfz10_0 := blk_frozen BK156.out 0; have hfz10_1 := blk_frozen BK156.out 1; have hfz10_2 := blk_frozen BK156.out 2; have hfz10_3 := blk_frozen BK156.out 3; have hfz10_4 := blk_frozen BK156.out 4; have hfz10_5 := blk_frozen BK156.out 5; have hfz10_6 := blk_frozen BK156.out 6; have hfz10_7 := blk_frozen BK156.out 7) | ((with_reducible refine gate_callee (f := 46) rfl ?_); refine goesL_ (some 9) rfl rfl Try.func46 (by kernel_rfl) rfl #[.int .u64 0] rfl aA ?_; (with_reducible refine (wide_Of.calls 0 t159 t160 _ A3.out).mono ?_); rintro e w11 ⟨rfl, hb⟩; refine ⟨_, rfl, ?_⟩; have n0_ := Aside0.mk (blk_below (g := gb156) kA hb); have n1_ := Aside0.mk (blk_below (g := gb157) kA hb); have n2_ := Aside0.mk (blk_below (g := gb158) kA hb); have n3_ := Aside0.mk (below_step bA hb); clear BK156 BK157 BK158 HB; have BK156 := n0_; have BK157 := n1_; have BK158 := n2_; have HB := n3_; clear n0_ n1_ n2_ n3_; (try clear hb)) | ((with_reducible refine gate_callee (f := 46) rfl ?_); refine goesL_ (some 10) rfl rfl Try.func46 (by kernel_rfl) rfl #[.int .u64 1] rfl aA ?_; (with_reducible refine (wide_Of.calls 1 t161 t162 _ A4.out).mono ?_); rintro e w12 ⟨rfl, hb⟩; refine ⟨_, rfl, ?_⟩; have n0_ := Aside0.mk (blk_below (g := gb156) kA hb); have n1_ := Aside0.mk (blk_below (g := gb157) kA hb); have n2_ := Aside0.mk (blk_below (g := gb158) kA hb); have n3_ := Aside0.mk (below_step bA hb); clear BK156 BK157 BK158 HB; have BK156 := n0_; have BK157 := n1_; have BK158 := n2_; have HB := n3_; clear n0_ n1_ n2_ n3_; (try clear hb); have hnb13 := NB157_158.out; have hnc13 := NB158_157.out; have hcz14_0 : w12.cell? ⟨gb157, 0, none⟩ = some (.int .u64 0) := (blk_cell BK157.out 0).trans rfl; have hcz14_1 : w12.cell? ⟨gb157, 1, none⟩ = some (.int .u64 0) := (blk_cell BK157.out 1).trans rfl; have hfz14_0 := blk_frozen BK157.out 0; have hfz14_1 := blk_frozen BK157.out 1; have hcz15_0 : w12.cell? ⟨gb158, 0, none⟩ = some (.int .u64 0) := (blk_cell BK158.out 0).trans rfl; have hcz15_1 : w12.cell? ⟨gb158, 1, none⟩ = some (.int .u64 0) := (blk_cell BK158.out 1).trans rfl; have hfz15_0 := blk_frozen BK158.out 0; have hfz15_1 := blk_frozen BK158.out 1))
  refine bodyPost_ret (results_cc rfl _ _ gb157 gb158 25 25 #[.int .u64 t159, .int .u64 t160] #[.int .u64 t161, .int .u64 t162] (0, 0) (0, 0) _ _ rfl (by (with_reducible repeat (first | refine blk_drewN ?_ _ | refine blk_drew ?_ | refine blk_alloc ?_ _)); refine blk_far ?_ NB157_158.out _; (with_reducible repeat (first | refine blk_drewN ?_ _ | refine blk_drew ?_ | refine blk_alloc ?_ _)); refine blk_far ?_ NB157_158.out _; (with_reducible repeat (first | refine blk_drewN ?_ _ | refine blk_drew ?_ | refine blk_alloc ?_ _)); refine blk_put (cs := #[.int .u64 t159, .int .u64 0]) ?_ 1 _ rfl; (with_reducible repeat (first | refine blk_drewN ?_ _ | refine blk_drew ?_ | refine blk_alloc ?_ _)); refine blk_put (cs := #[.int .u64 0, .int .u64 0]) ?_ 0 _ rfl; exact kA) Try.underlying25 rfl (by kernel_rfl) rfl (by (with_reducible repeat (first | refine blk_drewN ?_ _ | refine blk_drew ?_ | refine blk_alloc ?_ _)); refine blk_put (cs := #[.int .u64 t161, .int .u64 0]) ?_ 1 _ rfl; (with_reducible repeat (first | refine blk_drewN ?_ _ | refine blk_drew ?_ | refine blk_alloc ?_ _)); refine blk_put (cs := #[.int .u64 0, .int .u64 0]) ?_ 0 _ rfl; (with_reducible repeat (first | refine blk_drewN ?_ _ | refine blk_drew ?_ | refine blk_alloc ?_ _)); refine blk_far ?_ NB158_157.out _; (with_reducible repeat (first | refine blk_drewN ?_ _ | refine blk_drew ?_ | refine blk_alloc ?_ _)); refine blk_far ?_ NB158_157.out _; exact kA) Try.underlying25 rfl (by kernel_rfl)) rfl ?_
  exact ⟨by first | rfl | (simp [errW_none, errW_some] <;> rfl) | (simp [*, errW_none, errW_some] <;> rfl), bA⟩
 ·rw [if_neg c2] at H
  have c2b0 : (a0_4 == 0) = false := beq_eq_false_iff_ne.mpr c2
  have c2b1 : (a0_4 != 0) = true := bne_iff_ne.mpr c2
  replace H := Option.bind_eq_some_iff.mp H; obtain ⟨t163, A160, H⟩ := H; replace H : ((config_asked_most.f a0_0 a0_1 a0_2 a0_3 a0_4 a0_5 a0_6 a0_7).bind fun t164 => ((config_up.f (wrap64 (t164 * 81)) 2147483648).bind fun t165 => ((config_asked_area.f a0_0 a0_1 a0_2 a0_3 a0_4 a0_5 a0_6 a0_7).bind fun t166 => ((wide_Of.f (IntKind.u64.wrap (t166))).bind fun bt167 => ((wide_Shl.f bt167.1 bt167.2 32).bind fun bt169 => ((wide_Of.f (IntKind.u64.wrap (a0_4))).bind fun bt171 => ((config_asked_area.f a0_0 a0_1 a0_2 a0_3 a0_4 a0_5 a0_6 a0_7).bind fun t173 => ((wide_Times.f bt171.1 bt171.2 (IntKind.u64.wrap (wrap64 ((wrap64 (258048 * (wrap64 (t163 * (wrap64 (1 + t165)))))) + (wrap64 (2 * t173)))))).bind fun bt174 => ((wide_Add.f bt174.1 bt174.2.1 bt169.1 bt169.2).bind fun bt177 => (some (bt177.1, bt177.2.1, bt169.1, bt169.2))))))))))) = some (r1, r2, r3, r4) := H; have A16 := Aside0.mk A160; clear A160; replace H := Option.bind_eq_some_iff.mp H; obtain ⟨t164, A170, H⟩ := H; replace H : ((config_up.f (wrap64 (t164 * 81)) 2147483648).bind fun t165 => ((config_asked_area.f a0_0 a0_1 a0_2 a0_3 a0_4 a0_5 a0_6 a0_7).bind fun t166 => ((wide_Of.f (IntKind.u64.wrap (t166))).bind fun bt167 => ((wide_Shl.f bt167.1 bt167.2 32).bind fun bt169 => ((wide_Of.f (IntKind.u64.wrap (a0_4))).bind fun bt171 => ((config_asked_area.f a0_0 a0_1 a0_2 a0_3 a0_4 a0_5 a0_6 a0_7).bind fun t173 => ((wide_Times.f bt171.1 bt171.2 (IntKind.u64.wrap (wrap64 ((wrap64 (258048 * (wrap64 (t163 * (wrap64 (1 + t165)))))) + (wrap64 (2 * t173)))))).bind fun bt174 => ((wide_Add.f bt174.1 bt174.2.1 bt169.1 bt169.2).bind fun bt177 => (some (bt177.1, bt177.2.1, bt169.1, bt169.2)))))))))) = some (r1, r2, r3, r4) := H; have A17 := Aside0.mk A170; clear A170; replace H := Option.bind_eq_some_iff.mp H; obtain ⟨t165, A180, H⟩ := H; replace H : ((config_asked_area.f a0_0 a0_1 a0_2 a0_3 a0_4 a0_5 a0_6 a0_7).bind fun t166 => ((wide_Of.f (IntKind.u64.wrap (t166))).bind fun bt167 => ((wide_Shl.f bt167.1 bt167.2 32).bind fun bt169 => ((wide_Of.f (IntKind.u64.wrap (a0_4))).bind fun bt171 => ((config_asked_area.f a0_0 a0_1 a0_2 a0_3 a0_4 a0_5 a0_6 a0_7).bind fun t173 => ((wide_Times.f bt171.1 bt171.2 (IntKind.u64.wrap (wrap64 ((wrap64 (258048 * (wrap64 (t163 * (wrap64 (1 + t165)))))) + (wrap64 (2 * t173)))))).bind fun bt174 => ((wide_Add.f bt174.1 bt174.2.1 bt169.1 bt169.2).bind fun bt177 => (some (bt177.1, bt177.2.1, bt169.1, bt169.2))))))))) = some (r1, r2, r3, r4) := H; have A18 := Aside0.mk A180; clear A180; replace H := Option.bind_eq_some_iff.mp H; obtain ⟨t166, A190, H⟩ := H; replace H : ((wide_Of.f (IntKind.u64.wrap (t166))).bind fun bt167 => ((wide_Shl.f bt167.1 bt167.2 32).bind fun bt169 => ((wide_Of.f (IntKind.u64.wrap (a0_4))).bind fun bt171 => ((config_asked_area.f a0_0 a0_1 a0_2 a0_3 a0_4 a0_5 a0_6 a0_7).bind fun t173 => ((wide_Times.f bt171.1 bt171.2 (IntKind.u64.wrap (wrap64 ((wrap64 (258048 * (wrap64 (t163 * (wrap64 (1 + t165)))))) + (wrap64 (2 * t173)))))).bind fun bt174 => ((wide_Add.f bt174.1 bt174.2.1 bt169.1 bt169.2).bind fun bt177 => (some (bt177.1, bt177.2.1, bt169.1, bt169.2)))))))) = some (r1, r2, r3, r4) := H; have A19 := Aside0.mk A190; clear A190; replace H := Option.bind_eq_some_iff.mp H; obtain ⟨⟨t167, t168⟩, A200, H⟩ := H; replace H : ((wide_Shl.f t167 t168 32).bind fun bt169 => ((wide_Of.f (IntKind.u64.wrap (a0_4))).bind fun bt171 => ((config_asked_area.f a0_0 a0_1 a0_2 a0_3 a0_4 a0_5 a0_6 a0_7).bind fun t173 => ((wide_Times.f bt171.1 bt171.2 (IntKind.u64.wrap (wrap64 ((wrap64 (258048 * (wrap64 (t163 * (wrap64 (1 + t165)))))) + (wrap64 (2 * t173)))))).bind fun bt174 => ((wide_Add.f bt174.1 bt174.2.1 bt169.1 bt169.2).bind fun bt177 => (some (bt177.1, bt177.2.1, bt169.1, bt169.2))))))) = some (r1, r2, r3, r4) := H; have A20 := Aside0.mk A200; clear A200; replace H := Option.bind_eq_some_iff.mp H; obtain ⟨⟨t169, t170⟩, A210, H⟩ := H; replace H : ((wide_Of.f (IntKind.u64.wrap (a0_4))).bind fun bt171 => ((config_asked_area.f a0_0 a0_1 a0_2 a0_3 a0_4 a0_5 a0_6 a0_7).bind fun t173 => ((wide_Times.f bt171.1 bt171.2 (IntKind.u64.wrap (wrap64 ((wrap64 (258048 * (wrap64 (t163 * (wrap64 (1 + t165)))))) + (wrap64 (2 * t173)))))).bind fun bt174 => ((wide_Add.f bt174.1 bt174.2.1 t169 t170).bind fun bt177 => (some (bt177.1, bt177.2.1, t169, t170)))))) = some (r1, r2, r3, r4) := H
  have A21 := Aside0.mk A210; clear A210; replace H := Option.bind_eq_some_iff.mp H; obtain ⟨⟨t171, t172⟩, A220, H⟩ := H; replace H : ((config_asked_area.f a0_0 a0_1 a0_2 a0_3 a0_4 a0_5 a0_6 a0_7).bind fun t173 => ((wide_Times.f t171 t172 (IntKind.u64.wrap (wrap64 ((wrap64 (258048 * (wrap64 (t163 * (wrap64 (1 + t165)))))) + (wrap64 (2 * t173)))))).bind fun bt174 => ((wide_Add.f bt174.1 bt174.2.1 t169 t170).bind fun bt177 => (some (bt177.1, bt177.2.1, t169, t170))))) = some (r1, r2, r3, r4) := H; have A22 := Aside0.mk A220; clear A220; replace H := Option.bind_eq_some_iff.mp H; obtain ⟨t173, A230, H⟩ := H; replace H : ((wide_Times.f t171 t172 (IntKind.u64.wrap (wrap64 ((wrap64 (258048 * (wrap64 (t163 * (wrap64 (1 + t165)))))) + (wrap64 (2 * t173)))))).bind fun bt174 => ((wide_Add.f bt174.1 bt174.2.1 t169 t170).bind fun bt177 => (some (bt177.1, bt177.2.1, t169, t170)))) = some (r1, r2, r3, r4) := H; have A23 := Aside0.mk A230; clear A230; replace H := Option.bind_eq_some_iff.mp H; obtain ⟨⟨t174, t175, t176⟩, A240, H⟩ := H; replace H : ((wide_Add.f t174 t175 t169 t170).bind fun bt177 => (some (bt177.1, bt177.2.1, t169, t170))) = some (r1, r2, r3, r4) := H; have A24 := Aside0.mk A240; clear A240; replace H := Option.bind_eq_some_iff.mp H; obtain ⟨⟨t177, t178, t179⟩, A250, H⟩ := H; replace H : (some (t177, t178, t169, t170)) = some (r1, r2, r3, r4) := H; have A25 := Aside0.mk A250; clear A250
  simp only [Option.some.injEq, Prod.mk.injEq] at H
  obtain ⟨rfl, rfl, rfl, rfl⟩ := H
  go_enter Try.func71, Try.ntmps71
  try go_wp2_with (first | ((with_reducible refine gate_dst (N := 1) rfl ?_); refine bxA 1 #[.int .i64 a0_0, .int .i64 a0_1, .int .i64 a0_2, .int .i64 a0_3, .int .i64 a0_4, .int .i64 a0_5, .int .i64 a0_6, .int .i64 a0_7] 78 ?_; intro gb156 hg w26 hbox hb; have n0_ := Aside0.mk (below_step bA hb); have n1_ := Aside0.mk (hbox); have n2_ := Aside0.mk (gwA hg bA); have n3_ := Aside0.mk (gwA hg bA); clear HB; have HB := n0_; have BK156 := n1_; have GW156 := n2_; have GE156 := n3_; clear n0_ n1_ n2_ n3_ hb hbox hg) | ((with_reducible refine gate_dst (N := 2) rfl ?_); refine bxA 2 #[.int .u64 0, .int .u64 0] 25 ?_; intro gb157 hg w27 hbox hb; have n0_ := Aside0.mk (blk_below (g := gb156) kA hb); have n1_ := Aside0.mk (below_step bA hb); have n2_ := Aside0.mk (hbox); have n3_ := Aside0.mk (gwA hg bA); have n4_ := Aside0.mk (gwA hg bA); have n5_ := Aside0.mk (neA (g := gb156) hg kA); have n6_ := Aside0.mk (neB (g := gb156) hg kA); clear BK156 HB; have BK156 := n0_; have HB := n1_; have BK157 := n2_; have GW157 := n3_; have GE157 := n4_; have NB156_157 := n5_; have NB157_156 := n6_; clear n0_ n1_ n2_ n3_ n4_ n5_ n6_ hb hbox hg) | ((with_reducible refine gate_dst (N := 3) rfl ?_); refine bxA 3 #[.int .u64 0, .int .u64 0] 25 ?_; intro gb158 hg w28 hbox hb; have n0_ := Aside0.mk (blk_below (g := gb156) kA hb); have n1_ := Aside0.mk (blk_below (g := gb157) kA hb); have n2_ := Aside0.mk (below_step bA hb); have n3_ := Aside0.mk (hbox); have n4_ := Aside0.mk (gwA hg bA); have n5_ := Aside0.mk (gwA hg bA); have n6_ := Aside0.mk (neA (g := gb156) hg kA); have n7_ := Aside0.mk (neB (g := gb156) hg kA); have n8_ := Aside0.mk (neA (g := gb157) hg kA); have n9_ := Aside0.mk (neB (g := gb157) hg kA); clear BK156 BK157 HB; have BK156 := n0_; have BK157 := n1_; have HB := n2_; have BK158 := n3_; have GW158 := n4_; have GE158 := n5_; have NB156_158 := n6_; have NB158_156 := n7_; have NB157_158 := n8_; have NB158_157 := n9_; clear n0_ n1_ n2_ n3_ n4_ n5_ n6_ n7_ n8_ n9_ hb hbox hg; have hnb29 := NB156_157.out; have hnc29 := NB157_156.out; have hnb30 := NB156_158.out; have hnc30 := NB158_156.out; have hcz31_0 : w28.cell? ⟨gb156, 0, none⟩ = some (.int .i64 a0_0) := (blk_cell BK156.out 0).trans rfl; have hcz31_1 : w28.cell? ⟨gb156, 1, none⟩ = some (.int .i64 a0_1) := (blk_cell BK156.out 1).trans rfl; have hcz31_2 : w28.cell? ⟨gb156, 2, none⟩ = some (.int .i64 a0_2) := (blk_cell BK156.out 2).trans rfl; have hcz31_3 : w28.cell? ⟨gb156, 3, none⟩ = some (.int .i64 a0_3) := (blk_cell BK156.out 3).trans rfl; have hcz31_4 : w28.cell? ⟨gb156, 4, none⟩ = some (.int .i64 a0_4) := (blk_cell BK156.out 4).trans rfl; have hcz31_5 : w28.cell? ⟨gb156, 5, none⟩ = some (.int .i64 a0_5) := (blk_cell BK156.out 5).trans rfl; have hcz31_6 : w28.cell? ⟨gb156, 6, none⟩ = some (.int .i64 a0_6) := (blk_cell BK156.out 6).trans rfl; have hcz31_7 : w28.cell? ⟨gb156, 7, none⟩ = some (.int .i64 a0_7) := (blk_cell BK156.out 7).trans rfl; have hfz31_0 := blk_frozen BK156.out 0; have hfz31_1 := blk_frozen BK156.out 1; have hfz31_2 := blk_frozen BK156.out 2; have hfz31_3 := blk_frozen BK156.out 3; have hfz31_4 := blk_frozen BK156.out 4; have hfz31_5 := blk_frozen BK156.out 5; have hfz31_6 := blk_frozen BK156.out 6; have hfz31_7 := blk_frozen BK156.out 7))
  have n0_ := Aside0.mk (blk_drew BK156.out); have n1_ := Aside0.mk (blk_drew BK157.out); have n2_ := Aside0.mk (blk_drew BK158.out); have n3_ := Aside0.mk (below_drew1 HB.out); clear BK156 BK157 BK158 HB; have BK156 := n0_; have BK157 := n1_; have BK158 := n2_; have HB := n3_; clear n0_ n1_ n2_ n3_
  refine start_ (n := 9) (S := fun w' => w'.cell? ⟨gb156, 0, none⟩ = some (.int .i64 a0_0) ∧ w'.cell? ⟨gb156, 1, none⟩ = some (.int .i64 a0_1) ∧ w'.cell? ⟨gb156, 2, none⟩ = some (.int .i64 a0_2) ∧ w'.cell? ⟨gb156, 3, none⟩ = some (.int .i64 a0_3) ∧ w'.cell? ⟨gb156, 4, none⟩ = some (.int .i64 a0_4) ∧ w'.cell? ⟨gb156, 5, none⟩ = some (.int .i64 a0_5) ∧ w'.cell? ⟨gb156, 6, none⟩ = some (.int .i64 a0_6) ∧ w'.cell? ⟨gb156, 7, none⟩ = some (.int .i64 a0_7)) (ds := []) #[false, false, false, false, false, false, false, false, false] (by kernel_rfl) rfl rfl ⟨(blk_cell BK156.out 0).trans rfl, (blk_cell BK156.out 1).trans rfl, (blk_cell BK156.out 2).trans rfl, (blk_cell BK156.out 3).trans rfl, (blk_cell BK156.out 4).trans rfl, (blk_cell BK156.out 5).trans rfl, (blk_cell BK156.out 6).trans rfl, (blk_cell BK156.out 7).trans rfl⟩ (fun hHeld => ?_); refine with_tabW config_asked_bounds.tab3 config_asked_bounds.bits3 (fun HT_ HW_ => ?_)
  generalize w28.drew = w32 at BK156 BK157 BK158 HB hHeld ⊢
  refine take_ (i := 0) (N := some 11) (v := ?_) (a' := ?_) #[true, false, false, false, false, false, false, false, false] rfl rfl (take_ofW HT_.out HW_.out (by kernel_rfl)) (fun _ _ _ h => h) (Or.inl ⟨by rfl, ?_⟩) hHeld ?_ ?_
  rotate_left
  ·rintro w' ⟨s0, s1, s2, s3, s4, s5, s6, s7⟩
   go_simp; with_reducible rfl
  rotate_left
  ·simp only [Act.put, List.setIfInBounds_toArray, List.set_cons_zero, List.set_cons_succ, i64_w, i32_w]
   rfl
  refine take_ (i := 2) (N := some 13) (v := ?_) (a' := ?_) #[true, false, true, false, false, false, false, false, false] rfl rfl (take_ofW HT_.out HW_.out (by kernel_rfl)) (fun _ _ _ h => h) (Or.inl ⟨by rfl, ?_⟩) hHeld ?_ ?_
  rotate_left
  ·rintro w' ⟨s0, s1, s2, s3, s4, s5, s6, s7⟩
   go_simp; with_reducible rfl
  rotate_left
  ·simp only [Act.put, List.setIfInBounds_toArray, List.set_cons_zero, List.set_cons_succ, i64_w, i32_w]
   rfl
  refine one_ (i := 1) (N := some 12) #[true, true, true, false, false, false, false, false, false] rfl rfl (one_of HT_.out (by kernel_rfl)) (by decide) (fun K hK => ?_)
  refine goes_ Try.func99 (by kernel_rfl) rfl #[.agg #[.int .i64 a0_0, .int .i64 a0_1, .int .i64 a0_2, .int .i64 a0_3, .int .i64 a0_4, .int .i64 a0_5, .int .i64 a0_6, .int .i64 a0_7]] (by rfl) rfl rfl aA ?_
  with_reducible refine (config_asked_keeps.calls a0_0 a0_1 a0_2 a0_3 a0_4 a0_5 a0_6 a0_7 t163 _ A16.out).mono ?_
  rintro e w33 ⟨rfl, hb⟩
  refine ⟨_, rfl, ?_⟩; have n0_ := Aside0.mk (blk_below (g := gb156) kA hb); have n1_ := Aside0.mk (blk_below (g := gb157) kA hb); have n2_ := Aside0.mk (blk_below (g := gb158) kA hb); have n3_ := Aside0.mk (below_step bA hb); clear BK156 BK157 BK158 HB; have BK156 := n0_; have BK157 := n1_; have BK158 := n2_; have HB := n3_; clear n0_ n1_ n2_ n3_; (try clear hb)
  refine hK.out _ _ ⟨(blk_cell BK156.out 0).trans rfl, (blk_cell BK156.out 1).trans rfl, (blk_cell BK156.out 2).trans rfl, (blk_cell BK156.out 3).trans rfl, (blk_cell BK156.out 4).trans rfl, (blk_cell BK156.out 5).trans rfl, (blk_cell BK156.out 6).trans rfl, (blk_cell BK156.out 7).trans rfl⟩ (fun hHeld => ?_)
  clear hK K
  refine norm_ (a' := ?_) ?_ ?_
  rotate_left
  ·show Act.put _ (some 12) _ = _
   simp only [Act.put, List.setIfInBounds_toArray, List.set_cons_zero, List.set_cons_succ, i64_w, i32_w]
   rfl
  refine one_ (i := 3) (N := some 14) #[true, true, true, true, false, false, false, false, false] rfl rfl (one_of HT_.out (by kernel_rfl)) (by decide) (fun K hK => ?_)
  refine goes_ Try.func83 (by kernel_rfl) rfl #[.agg #[.int .i64 a0_0, .int .i64 a0_1, .int .i64 a0_2, .int .i64 a0_3, .int .i64 a0_4, .int .i64 a0_5, .int .i64 a0_6, .int .i64 a0_7]] (by rfl) rfl rfl aA ?_
  with_reducible refine (config_asked_most.calls a0_0 a0_1 a0_2 a0_3 a0_4 a0_5 a0_6 a0_7 t164 _ A17.out).mono ?_
  rintro e w34 ⟨rfl, hb⟩
  refine ⟨_, rfl, ?_⟩; have n0_ := Aside0.mk (blk_below (g := gb156) kA hb); have n1_ := Aside0.mk (blk_below (g := gb157) kA hb); have n2_ := Aside0.mk (blk_below (g := gb158) kA hb); have n3_ := Aside0.mk (below_step bA hb); clear BK156 BK157 BK158 HB; have BK156 := n0_; have BK157 := n1_; have BK158 := n2_; have HB := n3_; clear n0_ n1_ n2_ n3_; (try clear hb)
  refine hK.out _ _ ⟨(blk_cell BK156.out 0).trans rfl, (blk_cell BK156.out 1).trans rfl, (blk_cell BK156.out 2).trans rfl, (blk_cell BK156.out 3).trans rfl, (blk_cell BK156.out 4).trans rfl, (blk_cell BK156.out 5).trans rfl, (blk_cell BK156.out 6).trans rfl, (blk_cell BK156.out 7).trans rfl⟩ (fun hHeld => ?_)
  clear hK K
  refine norm_ (a' := ?_) ?_ ?_
  rotate_left
  ·show Act.put _ (some 14) _ = _
   simp only [Act.put, List.setIfInBounds_toArray, List.set_cons_zero, List.set_cons_succ, i64_w, i32_w]
   rfl
  refine pure_ (i := 4) (N := some 15) (v := ?_) (a' := ?_) #[true, true, true, true, true, false, false, false, false] rfl rfl (any_of HT_.out (by kernel_rfl)) (fun _ _ _ h => h) (Or.inl ⟨by rfl, ?_⟩) ?_ ?_
  rotate_left
  ·intro w'
   go_simp; with_reducible rfl
  rotate_left
  ·simp only [Act.put, List.setIfInBounds_toArray, List.set_cons_zero, List.set_cons_succ, i64_w, i32_w]
   rfl
  refine one_ (i := 5) (N := some 16) #[true, true, true, true, true, true, false, false, false] rfl rfl (one_of HT_.out (by kernel_rfl)) (by decide) (fun K hK => ?_)
  refine goes_ Try.func100 (by kernel_rfl) rfl #[.int .i64 (wrap64 (t164 * 81)), .int .i64 2147483648] (by rfl) rfl rfl aA ?_
  with_reducible refine (config_up.calls (wrap64 (t164 * 81)) 2147483648 t165 _ A18.out).mono ?_
  rintro e w' ⟨rfl, ⟨nd, rfl⟩⟩
  refine ⟨_, rfl, ?_⟩
  refine hK.out _ _ ⟨(blk_cell BK156.out 0).trans rfl, (blk_cell BK156.out 1).trans rfl, (blk_cell BK156.out 2).trans rfl, (blk_cell BK156.out 3).trans rfl, (blk_cell BK156.out 4).trans rfl, (blk_cell BK156.out 5).trans rfl, (blk_cell BK156.out 6).trans rfl, (blk_cell BK156.out 7).trans rfl⟩ (fun hHeld => ?_)
  clear hK K
  refine norm_ (a' := ?_) ?_ ?_
  rotate_left
  ·show Act.put _ (some 16) _ = _
   simp only [Act.put, List.setIfInBounds_toArray, List.set_cons_zero, List.set_cons_succ, i64_w, i32_w]
   rfl
  refine pure_ (i := 6) (N := some 17) (v := ?_) (a' := ?_) #[true, true, true, true, true, true, true, false, false] rfl rfl (any_of HT_.out (by kernel_rfl)) (fun _ _ _ h => h) (Or.inl ⟨by rfl, ?_⟩) ?_ ?_
  rotate_left
  ·intro w'
   go_simp; with_reducible rfl
  rotate_left
  ·simp only [Act.put, List.setIfInBounds_toArray, List.set_cons_zero, List.set_cons_succ, i64_w, i32_w]
   rfl
  refine pure_ (i := 7) (N := some 18) (v := ?_) (a' := ?_) #[true, true, true, true, true, true, true, true, false] rfl rfl (any_of HT_.out (by kernel_rfl)) (fun _ _ _ h => h) (Or.inl ⟨by rfl, ?_⟩) ?_ ?_
  rotate_left
  ·intro w'
   go_simp; with_reducible rfl
  rotate_left
  ·simp only [Act.put, List.setIfInBounds_toArray, List.set_cons_zero, List.set_cons_succ, i64_w, i32_w]
   rfl
  refine pure_ (i := 8) (N := some 4) (v := ?_) (a' := ?_) #[true, true, true, true, true, true, true, true, true] rfl rfl (any_of HT_.out (by kernel_rfl)) (fun _ _ _ h => h) (Or.inl ⟨by rfl, ?_⟩) ?_ ?_
  rotate_left
  ·intro w'
   go_simp; with_reducible rfl
  rotate_left
  ·simp only [Act.put, List.setIfInBounds_toArray, List.set_cons_zero, List.set_cons_succ, i64_w, i32_w]
   rfl
  refine done_ (done_of HT_.out (by kernel_rfl)) ?_
  have hcz35_0 : w34.cell? ⟨gb156, 0, none⟩ = some (.int .i64 a0_0) := (blk_cell BK156.out 0).trans rfl
  have hcz35_1 : w34.cell? ⟨gb156, 1, none⟩ = some (.int .i64 a0_1) := (blk_cell BK156.out 1).trans rfl
  have hcz35_2 : w34.cell? ⟨gb156, 2, none⟩ = some (.int .i64 a0_2) := (blk_cell BK156.out 2).trans rfl
  have hcz35_3 : w34.cell? ⟨gb156, 3, none⟩ = some (.int .i64 a0_3) := (blk_cell BK156.out 3).trans rfl
  have hcz35_4 : w34.cell? ⟨gb156, 4, none⟩ = some (.int .i64 a0_4) := (blk_cell BK156.out 4).trans rfl
  have hcz35_5 : w34.cell? ⟨gb156, 5, none⟩ = some (.int .i64 a0_5) := (blk_cell BK156.out 5).trans rfl
  have hcz35_6 : w34.cell? ⟨gb156, 6, none⟩ = some (.int .i64 a0_6) := (blk_cell BK156.out 6).trans rfl
  have hcz35_7 : w34.cell? ⟨gb156, 7, none⟩ = some (.int .i64 a0_7) := (blk_cell BK156.out 7).trans rfl
  have hfz35_0 := blk_frozen BK156.out 0
  have hfz35_1 := blk_frozen BK156.out 1
  have hfz35_2 := blk_frozen BK156.out 2
  have hfz35_3 := blk_frozen BK156.out 3
  have hfz35_4 := blk_frozen BK156.out 4
  have hfz35_5 := blk_frozen BK156.out 5
  have hfz35_6 := blk_frozen BK156.out 6
  have hfz35_7 := blk_frozen BK156.out 7
  try go_wp2_with (first | ((with_reducible refine gate_callee (f := 84) rfl ?_); refine goesL_ (some 20) rfl rfl Try.func84 (by kernel_rfl) rfl #[.agg #[.int .i64 a0_0, .int .i64 a0_1, .int .i64 a0_2, .int .i64 a0_3, .int .i64 a0_4, .int .i64 a0_5, .int .i64 a0_6, .int .i64 a0_7]] rfl aA ?_; (with_reducible refine (config_asked_area.calls a0_0 a0_1 a0_2 a0_3 a0_4 a0_5 a0_6 a0_7 t166 _ A19.out).mono ?_); rintro e w36 ⟨rfl, hb⟩; refine ⟨_, rfl, ?_⟩; have n0_ := Aside0.mk (blk_below (g := gb156) kA hb); have n1_ := Aside0.mk (blk_below (g := gb157) kA hb); have n2_ := Aside0.mk (blk_below (g := gb158) kA hb); have n3_ := Aside0.mk (below_step bA hb); clear BK156 BK157 BK158 HB; have BK156 := n0_; have BK157 := n1_; have BK158 := n2_; have HB := n3_; clear n0_ n1_ n2_ n3_; (try clear hb)) | ((with_reducible refine gate_callee (f := 46) rfl ?_); refine goesL_ (some 22) rfl rfl Try.func46 (by kernel_rfl) rfl #[.int .u64 (IntKind.u64.wrap (t166))] rfl aA ?_; (with_reducible refine (wide_Of.calls (IntKind.u64.wrap (t166)) t167 t168 _ A20.out).mono ?_); rintro e w37 ⟨rfl, hb⟩; refine ⟨_, rfl, ?_⟩; have n0_ := Aside0.mk (blk_below (g := gb156) kA hb); have n1_ := Aside0.mk (blk_below (g := gb157) kA hb); have n2_ := Aside0.mk (blk_below (g := gb158) kA hb); have n3_ := Aside0.mk (below_step bA hb); clear BK156 BK157 BK158 HB; have BK156 := n0_; have BK157 := n1_; have BK158 := n2_; have HB := n3_; clear n0_ n1_ n2_ n3_; (try clear hb)) | ((with_reducible refine gate_callee (f := 18) rfl ?_); refine goesL_ (some 23) rfl rfl Try.func18 (by kernel_rfl) rfl #[.agg #[.int .u64 t167, .int .u64 t168], .int .i64 32] rfl aA ?_; (with_reducible refine (wide_Shl.calls t167 t168 32 t169 t170 _ A21.out).mono ?_); rintro e w38 ⟨rfl, hb⟩; refine ⟨_, rfl, ?_⟩; have n0_ := Aside0.mk (blk_below (g := gb156) kA hb); have n1_ := Aside0.mk (blk_below (g := gb157) kA hb); have n2_ := Aside0.mk (blk_below (g := gb158) kA hb); have n3_ := Aside0.mk (below_step bA hb); clear BK156 BK157 BK158 HB; have BK156 := n0_; have BK157 := n1_; have BK158 := n2_; have HB := n3_; clear n0_ n1_ n2_ n3_; (try clear hb); have hnb39 := NB158_157.out; have hnc39 := NB157_158.out; have hcz40_0 : w38.cell? ⟨gb158, 0, none⟩ = some (.int .u64 0) := (blk_cell BK158.out 0).trans rfl; have hcz40_1 : w38.cell? ⟨gb158, 1, none⟩ = some (.int .u64 0) := (blk_cell BK158.out 1).trans rfl; have hfz40_0 := blk_frozen BK158.out 0; have hfz40_1 := blk_frozen BK158.out 1))
  have n0_ : Aside0 (((w38.setCell ⟨gb158, 0, none⟩ (.int .u64 t169)).setCell ⟨gb158, 1, none⟩ (.int .u64 t170)).heap[gb156]? = some (.cells #[.int .i64 a0_0, .int .i64 a0_1, .int .i64 a0_2, .int .i64 a0_3, .int .i64 a0_4, .int .i64 a0_5, .int .i64 a0_6, .int .i64 a0_7] 78 (0, 0))) := ⟨by (with_reducible repeat (first | refine blk_drewN ?_ _ | refine blk_drew ?_ | refine blk_alloc ?_ _)); refine blk_far ?_ NB156_158.out _; (with_reducible repeat (first | refine blk_drewN ?_ _ | refine blk_drew ?_ | refine blk_alloc ?_ _)); refine blk_far ?_ NB156_158.out _; exact kA⟩
  have n1_ : Aside0 (((w38.setCell ⟨gb158, 0, none⟩ (.int .u64 t169)).setCell ⟨gb158, 1, none⟩ (.int .u64 t170)).heap[gb157]? = some (.cells #[.int .u64 0, .int .u64 0] 25 (0, 0))) := ⟨by (with_reducible repeat (first | refine blk_drewN ?_ _ | refine blk_drew ?_ | refine blk_alloc ?_ _)); refine blk_far ?_ NB157_158.out _; (with_reducible repeat (first | refine blk_drewN ?_ _ | refine blk_drew ?_ | refine blk_alloc ?_ _)); refine blk_far ?_ NB157_158.out _; exact kA⟩
  have n2_ : Aside0 (((w38.setCell ⟨gb158, 0, none⟩ (.int .u64 t169)).setCell ⟨gb158, 1, none⟩ (.int .u64 t170)).heap[gb158]? = some (.cells #[.int .u64 t169, .int .u64 t170] 25 (0, 0))) := ⟨by (with_reducible repeat (first | refine blk_drewN ?_ _ | refine blk_drew ?_ | refine blk_alloc ?_ _)); refine blk_put (cs := #[.int .u64 t169, .int .u64 0]) ?_ 1 _ rfl; (with_reducible repeat (first | refine blk_drewN ?_ _ | refine blk_drew ?_ | refine blk_alloc ?_ _)); refine blk_put (cs := #[.int .u64 0, .int .u64 0]) ?_ 0 _ rfl; exact kA⟩
  have n3_ : Aside0 (Below w.heap.size w ((w38.setCell ⟨gb158, 0, none⟩ (.int .u64 t169)).setCell ⟨gb158, 1, none⟩ (.int .u64 t170))) := ⟨bA⟩
  (try clear BK156); (try clear BK157); (try clear BK158); (try clear HB)
  generalize ((w38.setCell ⟨gb158, 0, none⟩ (.int .u64 t169)).setCell ⟨gb158, 1, none⟩ (.int .u64 t170)) = w41 at n0_ n1_ n2_ n3_ ⊢
  have BK156 := n0_; have BK157 := n1_; have BK158 := n2_; have HB := n3_; clear n0_ n1_ n2_ n3_; have n0_ := Aside0.mk (blk_drew BK156.out); have n1_ := Aside0.mk (blk_drew BK157.out); have n2_ := Aside0.mk (blk_drew BK158.out); have n3_ := Aside0.mk (below_drew1 HB.out); clear BK156 BK157 BK158 HB; have BK156 := n0_; have BK157 := n1_; have BK158 := n2_; have HB := n3_; clear n0_ n1_ n2_ n3_
  refine start_ (n := 17) (S := fun w' => w'.cell? ⟨gb156, 0, none⟩ = some (.int .i64 a0_0) ∧ w'.cell? ⟨gb156, 1, none⟩ = some (.int .i64 a0_1) ∧ w'.cell? ⟨gb156, 2, none⟩ = some (.int .i64 a0_2) ∧ w'.cell? ⟨gb156, 3, none⟩ = some (.int .i64 a0_3) ∧ w'.cell? ⟨gb156, 4, none⟩ = some (.int .i64 a0_4) ∧ w'.cell? ⟨gb156, 5, none⟩ = some (.int .i64 a0_5) ∧ w'.cell? ⟨gb156, 6, none⟩ = some (.int .i64 a0_6) ∧ w'.cell? ⟨gb156, 7, none⟩ = some (.int .i64 a0_7)) (ds := []) #[false, false, false, false, false, false, false, false, false, false, false, false, false, false, false, false, false] (by kernel_rfl) rfl rfl ⟨(blk_cell BK156.out 0).trans rfl, (blk_cell BK156.out 1).trans rfl, (blk_cell BK156.out 2).trans rfl, (blk_cell BK156.out 3).trans rfl, (blk_cell BK156.out 4).trans rfl, (blk_cell BK156.out 5).trans rfl, (blk_cell BK156.out 6).trans rfl, (blk_cell BK156.out 7).trans rfl⟩ (fun hHeld => ?_); refine with_tabW config_asked_bounds.tab5 config_asked_bounds.bits5 (fun HT_ HW_ => ?_)
  generalize w41.drew = w42 at BK156 BK157 BK158 HB hHeld ⊢
  refine pure_ (i := 0) (N := some 25) (v := ?_) (a' := ?_) #[true, false, false, false, false, false, false, false, false, false, false, false, false, false, false, false, false] rfl rfl (any_of HT_.out (by kernel_rfl)) (fun _ _ _ h => h) (Or.inl ⟨by rfl, ?_⟩) ?_ ?_
  rotate_left
  ·intro w'
   go_simp; with_reducible rfl
  rotate_left
  ·simp only [Act.put, List.setIfInBounds_toArray, List.set_cons_zero, List.set_cons_succ, i64_w, i32_w]
   rfl
  refine pure_ (i := 1) (N := some 26) (v := ?_) (a' := ?_) #[true, true, false, false, false, false, false, false, false, false, false, false, false, false, false, false, false] rfl rfl (any_of HT_.out (by kernel_rfl)) (fun _ _ _ h => h) (Or.inl ⟨by rfl, ?_⟩) ?_ ?_
  rotate_left
  ·intro w'
   go_simp; with_reducible rfl
  rotate_left
  ·simp only [Act.put, List.setIfInBounds_toArray, List.set_cons_zero, List.set_cons_succ, i64_w, i32_w]
   rfl
  refine pure_ (i := 5) (N := some 30) (v := ?_) (a' := ?_) #[true, true, false, false, false, true, false, false, false, false, false, false, false, false, false, false, false] rfl rfl (any_of HT_.out (by kernel_rfl)) (fun _ _ _ h => h) (Or.inl ⟨by rfl, ?_⟩) ?_ ?_
  rotate_left
  ·intro w'
   go_simp; with_reducible rfl
  rotate_left
  ·simp only [Act.put, List.setIfInBounds_toArray, List.set_cons_zero, List.set_cons_succ, i64_w, i32_w]
   rfl
  refine pure_ (i := 6) (N := some 31) (v := ?_) (a' := ?_) #[true, true, false, false, false, true, true, false, false, false, false, false, false, false, false, false, false] rfl rfl (any_of HT_.out (by kernel_rfl)) (fun _ _ _ h => h) (Or.inl ⟨by rfl, ?_⟩) ?_ ?_
  rotate_left
  ·intro w'
   go_simp; with_reducible rfl
  rotate_left
  ·simp only [Act.put, List.setIfInBounds_toArray, List.set_cons_zero, List.set_cons_succ, i64_w, i32_w]
   rfl
  refine take_ (i := 2) (N := some 27) (v := ?_) (a' := ?_) #[true, true, true, false, false, true, true, false, false, false, false, false, false, false, false, false, false] rfl rfl (take_ofW HT_.out HW_.out (by kernel_rfl)) (fun _ _ _ h => h) (Or.inl ⟨by rfl, ?_⟩) hHeld ?_ ?_
  rotate_left
  ·rintro w' ⟨s0, s1, s2, s3, s4, s5, s6, s7⟩
   go_simp; with_reducible rfl
  rotate_left
  ·simp only [Act.put, List.setIfInBounds_toArray, List.set_cons_zero, List.set_cons_succ, i64_w, i32_w]
   rfl
  refine pure_ (i := 3) (N := some 28) (v := ?_) (a' := ?_) #[true, true, true, true, false, true, true, false, false, false, false, false, false, false, false, false, false] rfl rfl (any_of HT_.out (by kernel_rfl)) (fun _ _ _ h => h) (Or.inl ⟨by rfl, ?_⟩) ?_ ?_
  rotate_left
  ·intro w'
   go_simp; with_reducible rfl
  rotate_left
  ·simp only [Act.put, List.setIfInBounds_toArray, List.set_cons_zero, List.set_cons_succ, i64_w, i32_w]
   rfl
  refine take_ (i := 7) (N := some 32) (v := ?_) (a' := ?_) #[true, true, true, true, false, true, true, true, false, false, false, false, false, false, false, false, false] rfl rfl (take_ofW HT_.out HW_.out (by kernel_rfl)) (fun _ _ _ h => h) (Or.inl ⟨by rfl, ?_⟩) hHeld ?_ ?_
  rotate_left
  ·rintro w' ⟨s0, s1, s2, s3, s4, s5, s6, s7⟩
   go_simp; with_reducible rfl
  rotate_left
  ·simp only [Act.put, List.setIfInBounds_toArray, List.set_cons_zero, List.set_cons_succ, i64_w, i32_w]
   rfl
  refine one_ (i := 4) (N := some 29) #[true, true, true, true, true, true, true, true, false, false, false, false, false, false, false, false, false] rfl rfl (one_of HT_.out (by kernel_rfl)) (by decide) (fun K hK => ?_)
  refine goes_ Try.func46 (by kernel_rfl) rfl #[.int .u64 (IntKind.u64.wrap (a0_4))] (by rfl) rfl rfl aA ?_
  with_reducible refine (wide_Of.calls (IntKind.u64.wrap (a0_4)) t171 t172 _ A22.out).mono ?_
  rintro e w43 ⟨rfl, hb⟩
  refine ⟨_, rfl, ?_⟩; have n0_ := Aside0.mk (blk_below (g := gb156) kA hb); have n1_ := Aside0.mk (blk_below (g := gb157) kA hb); have n2_ := Aside0.mk (blk_below (g := gb158) kA hb); have n3_ := Aside0.mk (below_step bA hb); clear BK156 BK157 BK158 HB; have BK156 := n0_; have BK157 := n1_; have BK158 := n2_; have HB := n3_; clear n0_ n1_ n2_ n3_; (try clear hb)
  refine hK.out _ _ ⟨(blk_cell BK156.out 0).trans rfl, (blk_cell BK156.out 1).trans rfl, (blk_cell BK156.out 2).trans rfl, (blk_cell BK156.out 3).trans rfl, (blk_cell BK156.out 4).trans rfl, (blk_cell BK156.out 5).trans rfl, (blk_cell BK156.out 6).trans rfl, (blk_cell BK156.out 7).trans rfl⟩ (fun hHeld => ?_)
  clear hK K
  refine norm_ (a' := ?_) ?_ ?_
  rotate_left
  ·show Act.put _ (some 29) _ = _
   simp only [Act.put, List.setIfInBounds_toArray, List.set_cons_zero, List.set_cons_succ, i64_w, i32_w]
   rfl
  refine one_ (i := 8) (N := some 33) #[true, true, true, true, true, true, true, true, true, false, false, false, false, false, false, false, false] rfl rfl (one_of HT_.out (by kernel_rfl)) (by decide) (fun K hK => ?_)
  refine goes_ Try.func84 (by kernel_rfl) rfl #[.agg #[.int .i64 a0_0, .int .i64 a0_1, .int .i64 a0_2, .int .i64 a0_3, .int .i64 a0_4, .int .i64 a0_5, .int .i64 a0_6, .int .i64 a0_7]] (by rfl) rfl rfl aA ?_
  with_reducible refine (config_asked_area.calls a0_0 a0_1 a0_2 a0_3 a0_4 a0_5 a0_6 a0_7 t173 _ A23.out).mono ?_
  rintro e w44 ⟨rfl, hb⟩
  refine ⟨_, rfl, ?_⟩; have n0_ := Aside0.mk (blk_below (g := gb156) kA hb); have n1_ := Aside0.mk (blk_below (g := gb157) kA hb); have n2_ := Aside0.mk (blk_below (g := gb158) kA hb); have n3_ := Aside0.mk (below_step bA hb); clear BK156 BK157 BK158 HB; have BK156 := n0_; have BK157 := n1_; have BK158 := n2_; have HB := n3_; clear n0_ n1_ n2_ n3_; (try clear hb)
  refine hK.out _ _ ⟨(blk_cell BK156.out 0).trans rfl, (blk_cell BK156.out 1).trans rfl, (blk_cell BK156.out 2).trans rfl, (blk_cell BK156.out 3).trans rfl, (blk_cell BK156.out 4).trans rfl, (blk_cell BK156.out 5).trans rfl, (blk_cell BK156.out 6).trans rfl, (blk_cell BK156.out 7).trans rfl⟩ (fun hHeld => ?_)
  clear hK K
  refine norm_ (a' := ?_) ?_ ?_
  rotate_left
  ·show Act.put _ (some 33) _ = _
   simp only [Act.put, List.setIfInBounds_toArray, List.set_cons_zero, List.set_cons_succ, i64_w, i32_w]
   rfl
  refine pure_ (i := 9) (N := some 34) (v := ?_) (a' := ?_) #[true, true, true, true, true, true, true, true, true, true, false, false, false, false, false, false, false] rfl rfl (any_of HT_.out (by kernel_rfl)) (fun _ _ _ h => h) (Or.inl ⟨by rfl, ?_⟩) ?_ ?_
  rotate_left
  ·intro w'
   go_simp; with_reducible rfl
  rotate_left
  ·simp only [Act.put, List.setIfInBounds_toArray, List.set_cons_zero, List.set_cons_succ, i64_w, i32_w]
   rfl
  refine pure_ (i := 10) (N := some 35) (v := ?_) (a' := ?_) #[true, true, true, true, true, true, true, true, true, true, true, false, false, false, false, false, false] rfl rfl (any_of HT_.out (by kernel_rfl)) (fun _ _ _ h => h) (Or.inl ⟨by rfl, ?_⟩) ?_ ?_
  rotate_left
  ·intro w'
   go_simp; with_reducible rfl
  rotate_left
  ·simp only [Act.put, List.setIfInBounds_toArray, List.set_cons_zero, List.set_cons_succ, i64_w, i32_w]
   rfl
  refine pure_ (i := 11) (N := some 36) (v := ?_) (a' := ?_) #[true, true, true, true, true, true, true, true, true, true, true, true, false, false, false, false, false] rfl rfl (any_of HT_.out (by kernel_rfl)) (fun _ _ _ h => h) (Or.inl ⟨by rfl, ?_⟩) ?_ ?_
  rotate_left
  ·intro w'
   go_simp; with_reducible rfl
  rotate_left
  ·simp only [Act.put, List.setIfInBounds_toArray, List.set_cons_zero, List.set_cons_succ, i64_w, i32_w]
   rfl
  refine one_ (i := 12) (N := some 37) #[true, true, true, true, true, true, true, true, true, true, true, true, true, false, false, false, false] rfl rfl (one_of HT_.out (by kernel_rfl)) (by decide) (fun K hK => ?_)
  refine goes_ Try.func42 (by kernel_rfl) rfl #[.agg #[.int .u64 t171, .int .u64 t172], .int .u64 (IntKind.u64.wrap (wrap64 ((wrap64 (258048 * (wrap64 (t163 * (wrap64 (1 + t165)))))) + (wrap64 (2 * t173)))))] (by rfl) rfl rfl aA ?_
  with_reducible refine (wide_Times.calls t171 t172 (IntKind.u64.wrap (wrap64 ((wrap64 (258048 * (wrap64 (t163 * (wrap64 (1 + t165)))))) + (wrap64 (2 * t173))))) t174 t175 t176 _ A24.out).mono ?_
  rintro e w45 ⟨rfl, hb⟩
  refine ⟨_, rfl, ?_⟩; have n0_ := Aside0.mk (blk_below (g := gb156) kA hb); have n1_ := Aside0.mk (blk_below (g := gb157) kA hb); have n2_ := Aside0.mk (blk_below (g := gb158) kA hb); have n3_ := Aside0.mk (below_step bA hb); clear BK156 BK157 BK158 HB; have BK156 := n0_; have BK157 := n1_; have BK158 := n2_; have HB := n3_; clear n0_ n1_ n2_ n3_; (try clear hb)
  refine hK.out _ _ ⟨(blk_cell BK156.out 0).trans rfl, (blk_cell BK156.out 1).trans rfl, (blk_cell BK156.out 2).trans rfl, (blk_cell BK156.out 3).trans rfl, (blk_cell BK156.out 4).trans rfl, (blk_cell BK156.out 5).trans rfl, (blk_cell BK156.out 6).trans rfl, (blk_cell BK156.out 7).trans rfl⟩ (fun hHeld => ?_)
  clear hK K
  refine norm_ (a' := ?_) ?_ ?_
  rotate_left
  ·show Act.put _ (some 37) _ = _
   simp only [Act.put, List.setIfInBounds_toArray, List.set_cons_zero, List.set_cons_succ, i64_w, i32_w]
   rfl
  refine pure_ (i := 13) (N := some 24) (v := ?_) (a' := ?_) #[true, true, true, true, true, true, true, true, true, true, true, true, true, true, false, false, false] rfl rfl (any_of HT_.out (by kernel_rfl)) (fun _ _ _ h => h) (Or.inl ⟨by rfl, ?_⟩) ?_ ?_
  rotate_left
  ·intro w'
   go_simp; with_reducible rfl
  rotate_left
  ·simp only [Act.put, List.setIfInBounds_toArray, List.set_cons_zero, List.set_cons_succ, i64_w, i32_w]
   rfl
  refine pure_ (i := 14) (N := some 38) (v := ?_) (a' := ?_) #[true, true, true, true, true, true, true, true, true, true, true, true, true, true, true, false, false] rfl rfl (any_of HT_.out (by kernel_rfl)) (fun _ _ _ h => h) (Or.inl ⟨by rfl, ?_⟩) ?_ ?_
  rotate_left
  ·intro w'
   go_simp; with_reducible rfl
  rotate_left
  ·simp only [Act.put, List.setIfInBounds_toArray, List.set_cons_zero, List.set_cons_succ, i64_w, i32_w]
   rfl
  refine pure_ (i := 15) (N := some 39) (v := ?_) (a' := ?_) #[true, true, true, true, true, true, true, true, true, true, true, true, true, true, true, true, false] rfl rfl (any_of HT_.out (by kernel_rfl)) (fun _ _ _ h => h) (Or.inl ⟨by rfl, ?_⟩) ?_ ?_
  rotate_left
  ·intro w'
   go_simp; with_reducible rfl
  rotate_left
  ·simp only [Act.put, List.setIfInBounds_toArray, List.set_cons_zero, List.set_cons_succ, i64_w, i32_w]
   rfl
  refine one_ (i := 16) (N := none) #[true, true, true, true, true, true, true, true, true, true, true, true, true, true, true, true, true] rfl rfl (one_of HT_.out (by kernel_rfl)) (by decide) (fun K hK => ?_)
  have hs46 : w45.cell? ⟨gb157, 0, none⟩ = some (.int .u64 0) := (blk_cell BK157.out 0).trans rfl
  have hfs46 := blk_frozen BK157.out 0
  have hns46_0 := NB156_157.out
  have hns46_2 := NB158_157.out
  have hms46_0 := NB157_156.out
  have hms46_2 := NB157_158.out
  have hs47 : w45.cell? ⟨gb157, 1, none⟩ = some (.int .u64 0) := (blk_cell BK157.out 1).trans rfl
  have hfs47 := blk_frozen BK157.out 1
  have hns47_0 := NB156_157.out
  have hns47_2 := NB158_157.out
  have hms47_0 := NB157_156.out
  have hms47_2 := NB157_158.out
  refine skip_ (w1 := ?_) (by rfl) rfl ?_ ?_
  rotate_left
  ·go_simp
   rfl
  refine hK.out _ _ ⟨((cell_far (p := ⟨gb157, _, none⟩) NB156_157.out _).trans (((cell_far (p := ⟨gb157, _, none⟩) NB156_157.out _).trans (hHeld.1)))), ((cell_far (p := ⟨gb157, _, none⟩) NB156_157.out _).trans (((cell_far (p := ⟨gb157, _, none⟩) NB156_157.out _).trans (hHeld.2.1)))), ((cell_far (p := ⟨gb157, _, none⟩) NB156_157.out _).trans (((cell_far (p := ⟨gb157, _, none⟩) NB156_157.out _).trans (hHeld.2.2.1)))), ((cell_far (p := ⟨gb157, _, none⟩) NB156_157.out _).trans (((cell_far (p := ⟨gb157, _, none⟩) NB156_157.out _).trans (hHeld.2.2.2.1)))), ((cell_far (p := ⟨gb157, _, none⟩) NB156_157.out _).trans (((cell_far (p := ⟨gb157, _, none⟩) NB156_157.out _).trans (hHeld.2.2.2.2.1)))), ((cell_far (p := ⟨gb157, _, none⟩) NB156_157.out _).trans (((cell_far (p := ⟨gb157, _, none⟩) NB156_157.out _).trans (hHeld.2.2.2.2.2.1)))), ((cell_far (p := ⟨gb157, _, none⟩) NB156_157.out _).trans (((cell_far (p := ⟨gb157, _, none⟩) NB156_157.out _).trans (hHeld.2.2.2.2.2.2.1)))), ((cell_far (p := ⟨gb157, _, none⟩) NB156_157.out _).trans (((cell_far (p := ⟨gb157, _, none⟩) NB156_157.out _).trans (hHeld.2.2.2.2.2.2.2))))⟩ (fun hHeld => ?_)
  clear hK K
  refine done_ (done_of HT_.out (by kernel_rfl)) ?_
  have hcz48_0 : w45.cell? ⟨gb157, 0, none⟩ = some (.int .u64 0) := (blk_cell BK157.out 0).trans rfl
  have hcz48_1 : w45.cell? ⟨gb157, 1, none⟩ = some (.int .u64 0) := (blk_cell BK157.out 1).trans rfl
  have hfz48_0 := blk_frozen BK157.out 0
  have hfz48_1 := blk_frozen BK157.out 1
  have hcz49_0 : w45.cell? ⟨gb158, 0, none⟩ = some (.int .u64 t169) := (blk_cell BK158.out 0).trans rfl
  have hcz49_1 : w45.cell? ⟨gb158, 1, none⟩ = some (.int .u64 t170) := (blk_cell BK158.out 1).trans rfl
  have hfz49_0 := blk_frozen BK158.out 0
  have hfz49_1 := blk_frozen BK158.out 1
  try go_wp2_with (first | ((with_reducible refine gate_callee (f := 40) rfl ?_); refine goesL_ (some 43) rfl rfl Try.func40 (by kernel_rfl) rfl #[.agg #[.int .u64 t174, .int .u64 t175], .agg #[.int .u64 t169, .int .u64 t170]] rfl aA ?_; (with_reducible refine (wide_Add.calls t174 t175 t169 t170 t177 t178 t179 _ A25.out).mono ?_); rintro e w50 ⟨rfl, hb⟩; refine ⟨_, rfl, ?_⟩; have n0_ := Aside0.mk (blk_below (g := gb156) (o := .cells #[.int .i64 a0_0, .int .i64 a0_1, .int .i64 a0_2, .int .i64 a0_3, .int .i64 a0_4, .int .i64 a0_5, .int .i64 a0_6, .int .i64 a0_7] 78 (0, 0)) (by (with_reducible repeat (first | refine blk_drewN ?_ _ | refine blk_drew ?_ | refine blk_alloc ?_ _)); refine blk_far ?_ NB156_157.out _; (with_reducible repeat (first | refine blk_drewN ?_ _ | refine blk_drew ?_ | refine blk_alloc ?_ _)); refine blk_far ?_ NB156_157.out _; exact kA) hb); have n1_ := Aside0.mk (blk_below (g := gb157) (o := .cells #[.int .u64 t174, .int .u64 t175] 25 (0, 0)) (by (with_reducible repeat (first | refine blk_drewN ?_ _ | refine blk_drew ?_ | refine blk_alloc ?_ _)); refine blk_put (cs := #[.int .u64 t174, .int .u64 0]) ?_ 1 _ rfl; (with_reducible repeat (first | refine blk_drewN ?_ _ | refine blk_drew ?_ | refine blk_alloc ?_ _)); refine blk_put (cs := #[.int .u64 0, .int .u64 0]) ?_ 0 _ rfl; exact kA) hb); have n2_ := Aside0.mk (blk_below (g := gb158) (o := .cells #[.int .u64 t169, .int .u64 t170] 25 (0, 0)) (by (with_reducible repeat (first | refine blk_drewN ?_ _ | refine blk_drew ?_ | refine blk_alloc ?_ _)); refine blk_far ?_ NB158_157.out _; (with_reducible repeat (first | refine blk_drewN ?_ _ | refine blk_drew ?_ | refine blk_alloc ?_ _)); refine blk_far ?_ NB158_157.out _; exact kA) hb); have n3_ := Aside0.mk (below_step bA hb); clear BK156 BK157 BK158 HB; have BK156 := n0_; have BK157 := n1_; have BK158 := n2_; have HB := n3_; clear n0_ n1_ n2_ n3_; (try clear hb); have hcz51_0 : w50.cell? ⟨gb157, 0, none⟩ = some (.int .u64 t174) := (blk_cell BK157.out 0).trans rfl; have hcz51_1 : w50.cell? ⟨gb157, 1, none⟩ = some (.int .u64 t175) := (blk_cell BK157.out 1).trans rfl; have hfz51_0 := blk_frozen BK157.out 0; have hfz51_1 := blk_frozen BK157.out 1))
  have n1_ : Aside0 (((w50.setCell ⟨gb157, 0, none⟩ (.int .u64 t177)).setCell ⟨gb157, 1, none⟩ (.int .u64 t178)).heap[gb157]? = some (.cells #[.int .u64 t177, .int .u64 t178] 25 (0, 0))) := ⟨by (with_reducible repeat (first | refine blk_drewN ?_ _ | refine blk_drew ?_ | refine blk_alloc ?_ _)); refine blk_put (cs := #[.int .u64 t177, .int .u64 t175]) ?_ 1 _ rfl; (with_reducible repeat (first | refine blk_drewN ?_ _ | refine blk_drew ?_ | refine blk_alloc ?_ _)); refine blk_put (cs := #[.int .u64 t174, .int .u64 t175]) ?_ 0 _ rfl; (with_reducible repeat (first | refine blk_drewN ?_ _ | refine blk_drew ?_ | refine blk_alloc ?_ _)); exact BK157.out⟩
  have n2_ : Aside0 (((w50.setCell ⟨gb157, 0, none⟩ (.int .u64 t177)).setCell ⟨gb157, 1, none⟩ (.int .u64 t178)).heap[gb158]? = some (.cells #[.int .u64 t169, .int .u64 t170] 25 (0, 0))) := ⟨by (with_reducible repeat (first | refine blk_drewN ?_ _ | refine blk_drew ?_ | refine blk_alloc ?_ _)); refine blk_far ?_ NB158_157.out _; (with_reducible repeat (first | refine blk_drewN ?_ _ | refine blk_drew ?_ | refine blk_alloc ?_ _)); refine blk_far ?_ NB158_157.out _; (with_reducible repeat (first | refine blk_drewN ?_ _ | refine blk_drew ?_ | refine blk_alloc ?_ _)); exact BK158.out⟩
  have n3_ : Aside0 (Below w.heap.size w ((w50.setCell ⟨gb157, 0, none⟩ (.int .u64 t177)).setCell ⟨gb157, 1, none⟩ (.int .u64 t178))) := ⟨bA⟩
  clear BK157 BK158 HB
  generalize ((w50.setCell ⟨gb157, 0, none⟩ (.int .u64 t177)).setCell ⟨gb157, 1, none⟩ (.int .u64 t178)) = wq1 at n1_ n2_ n3_ ⊢
  have BK157 := Aside0.mk (blk_drew n1_.out)
  have BK158 := Aside0.mk (blk_drew n2_.out)
  have HB := Aside0.mk (below_drew1 n3_.out)
  clear n1_ n2_ n3_
  refine start_ (n := 4) (S := fun w' => w'.cell? ⟨gb157, 0, none⟩ = some (.int .u64 t177) ∧ w'.cell? ⟨gb157, 1, none⟩ = some (.int .u64 t178) ∧ w'.cell? ⟨gb158, 0, none⟩ = some (.int .u64 t169) ∧ w'.cell? ⟨gb158, 1, none⟩ = some (.int .u64 t170)) (ds := []) #[false, false, false, false] (by kernel_rfl) rfl rfl ⟨(blk_cell BK157.out 0).trans rfl, (blk_cell BK157.out 1).trans rfl, (blk_cell BK158.out 0).trans rfl, (blk_cell BK158.out 1).trans rfl⟩ (fun hHeld => ?_)
  generalize wq1.drew = wq2 at BK157 BK158 HB hHeld ⊢
  refine take_ (i := 0) (N := some 46) (v := ?_) (a' := ?_) #[true, false, false, false] rfl rfl (by kernel_rfl) (fun _ _ _ h => h) (Or.inl ⟨by rfl, ?_⟩) hHeld ?_ ?_
  rotate_left
  ·rintro w' ⟨s0, s1, s2, s3⟩
   go_simp; with_reducible rfl
  rotate_left
  ·simp only [Act.put, List.setIfInBounds_toArray, List.set_cons_zero, List.set_cons_succ, i64_w, i32_w]
   rfl
  refine take_ (i := 1) (N := some 47) (v := ?_) (a' := ?_) #[true, true, false, false] rfl rfl (by kernel_rfl) (fun _ _ _ h => h) (Or.inl ⟨by rfl, ?_⟩) hHeld ?_ ?_
  rotate_left
  ·rintro w' ⟨s0, s1, s2, s3⟩
   go_simp; with_reducible rfl
  rotate_left
  ·simp only [Act.put, List.setIfInBounds_toArray, List.set_cons_zero, List.set_cons_succ, i64_w, i32_w]
   rfl
  refine one_ (i := 2) (N := none) #[true, true, true, false] rfl rfl (by kernel_rfl) (by decide) (fun K hK => ?_)
  have hs0_2 : wq2.cell? ⟨gb157, 0, none⟩ = some (.int .u64 t177) := (blk_cell BK157.out 0).trans rfl
  have hf0_2 := blk_frozen BK157.out 0
  have hs1_2 : wq2.cell? ⟨gb157, 1, none⟩ = some (.int .u64 t178) := (blk_cell BK157.out 1).trans rfl
  have hf1_2 := blk_frozen BK157.out 1
  refine skip_ (w1 := ?_) (by rfl) rfl ?_ ?_
  rotate_left
  ·go_simp
   rfl
  have n1_ : Aside0 (((wq2.setCell ⟨gb157, 0, none⟩ (.int .u64 t177)).setCell ⟨gb157, 1, none⟩ (.int .u64 t178)).heap[gb157]? = some (.cells #[.int .u64 t177, .int .u64 t178] 25 (0, 0))) := ⟨by (with_reducible repeat (first | refine blk_drewN ?_ _ | refine blk_drew ?_ | refine blk_alloc ?_ _)); refine blk_put (cs := #[.int .u64 t177, .int .u64 t178]) ?_ 1 _ rfl; (with_reducible repeat (first | refine blk_drewN ?_ _ | refine blk_drew ?_ | refine blk_alloc ?_ _)); refine blk_put (cs := #[.int .u64 t177, .int .u64 t178]) ?_ 0 _ rfl; (with_reducible repeat (first | refine blk_drewN ?_ _ | refine blk_drew ?_ | refine blk_alloc ?_ _)); exact BK157.out⟩
  have n2_ : Aside0 (((wq2.setCell ⟨gb157, 0, none⟩ (.int .u64 t177)).setCell ⟨gb157, 1, none⟩ (.int .u64 t178)).heap[gb158]? = some (.cells #[.int .u64 t169, .int .u64 t170] 25 (0, 0))) := ⟨by (with_reducible repeat (first | refine blk_drewN ?_ _ | refine blk_drew ?_ | refine blk_alloc ?_ _)); refine blk_far ?_ NB158_157.out _; (with_reducible repeat (first | refine blk_drewN ?_ _ | refine blk_drew ?_ | refine blk_alloc ?_ _)); refine blk_far ?_ NB158_157.out _; (with_reducible repeat (first | refine blk_drewN ?_ _ | refine blk_drew ?_ | refine blk_alloc ?_ _)); exact BK158.out⟩
  have n3_ : Aside0 (Below w.heap.size w ((wq2.setCell ⟨gb157, 0, none⟩ (.int .u64 t177)).setCell ⟨gb157, 1, none⟩ (.int .u64 t178))) := ⟨bA⟩
  clear hHeld hs0_2 hf0_2 hs1_2 hf1_2 BK157 BK158 HB
  have BK157 := n1_
  have BK158 := n2_
  have HB := n3_
  clear n1_ n2_ n3_
  generalize ((wq2.setCell ⟨gb157, 0, none⟩ (.int .u64 t177)).setCell ⟨gb157, 1, none⟩ (.int .u64 t178)) = wq3 at BK157 BK158 HB ⊢
  refine hK.out _ _ ⟨(blk_cell BK157.out 0).trans rfl, (blk_cell BK157.out 1).trans rfl, (blk_cell BK158.out 0).trans rfl, (blk_cell BK158.out 1).trans rfl⟩ (fun hHeld => ?_)
  clear hK K
  refine one_ (i := 3) (N := none) #[true, true, true, true] rfl rfl (by kernel_rfl) (by decide) (fun K hK => ?_)
  have hs0_3 : wq3.cell? ⟨gb158, 0, none⟩ = some (.int .u64 t169) := (blk_cell BK158.out 0).trans rfl
  have hf0_3 := blk_frozen BK158.out 0
  have hs1_3 : wq3.cell? ⟨gb158, 1, none⟩ = some (.int .u64 t170) := (blk_cell BK158.out 1).trans rfl
  have hf1_3 := blk_frozen BK158.out 1
  refine skip_ (w1 := ?_) (by rfl) rfl ?_ ?_
  rotate_left
  ·go_simp
   rfl
  have n1_ : Aside0 (((wq3.setCell ⟨gb158, 0, none⟩ (.int .u64 t169)).setCell ⟨gb158, 1, none⟩ (.int .u64 t170)).heap[gb158]? = some (.cells #[.int .u64 t169, .int .u64 t170] 25 (0, 0))) := ⟨by (with_reducible repeat (first | refine blk_drewN ?_ _ | refine blk_drew ?_ | refine blk_alloc ?_ _)); refine blk_put (cs := #[.int .u64 t169, .int .u64 t170]) ?_ 1 _ rfl; (with_reducible repeat (first | refine blk_drewN ?_ _ | refine blk_drew ?_ | refine blk_alloc ?_ _)); refine blk_put (cs := #[.int .u64 t169, .int .u64 t170]) ?_ 0 _ rfl; (with_reducible repeat (first | refine blk_drewN ?_ _ | refine blk_drew ?_ | refine blk_alloc ?_ _)); exact BK158.out⟩
  have n2_ : Aside0 (((wq3.setCell ⟨gb158, 0, none⟩ (.int .u64 t169)).setCell ⟨gb158, 1, none⟩ (.int .u64 t170)).heap[gb157]? = some (.cells #[.int .u64 t177, .int .u64 t178] 25 (0, 0))) := ⟨by (with_reducible repeat (first | refine blk_drewN ?_ _ | refine blk_drew ?_ | refine blk_alloc ?_ _)); refine blk_far ?_ NB157_158.out _; (with_reducible repeat (first | refine blk_drewN ?_ _ | refine blk_drew ?_ | refine blk_alloc ?_ _)); refine blk_far ?_ NB157_158.out _; (with_reducible repeat (first | refine blk_drewN ?_ _ | refine blk_drew ?_ | refine blk_alloc ?_ _)); exact BK157.out⟩
  have n3_ : Aside0 (Below w.heap.size w ((wq3.setCell ⟨gb158, 0, none⟩ (.int .u64 t169)).setCell ⟨gb158, 1, none⟩ (.int .u64 t170))) := ⟨bA⟩
  clear hHeld hs0_3 hf0_3 hs1_3 hf1_3 BK158 BK157 HB
  have BK158 := n1_
  have BK157 := n2_
  have HB := n3_
  clear n1_ n2_ n3_
  generalize ((wq3.setCell ⟨gb158, 0, none⟩ (.int .u64 t169)).setCell ⟨gb158, 1, none⟩ (.int .u64 t170)) = wq4 at BK158 BK157 HB ⊢
  refine hK.out _ _ ⟨(blk_cell BK157.out 0).trans rfl, (blk_cell BK157.out 1).trans rfl, (blk_cell BK158.out 0).trans rfl, (blk_cell BK158.out 1).trans rfl⟩ (fun hHeld => ?_)
  clear hK K
  refine done_ (by kernel_rfl) ?_
  try go_wp2
  refine bodyPost_ret (results_cc rfl _ _ gb157 gb158 25 25 #[.int .u64 t177, .int .u64 t178] #[.int .u64 t169, .int .u64 t170] (0, 0) (0, 0) _ _ rfl kA Try.underlying25 rfl (by kernel_rfl) rfl kA Try.underlying25 rfl (by kernel_rfl)) rfl ?_
  exact ⟨by first | rfl | (simp [errW_none, errW_some] <;> rfl) | (simp [*, errW_none, errW_some] <;> rfl), bA⟩

/-! ### config_asked_lead: function 80 -/
def config_asked_lead.f (a0_0 : Int) (a0_1 : Int) (a0_2 : Int) (a0_3 : Int) (a0_4 : Int) (a0_5 : Int) (a0_6 : Int) (a0_7 : Int) : Option (Int) := (config_asked_fairSize.f a0_0 a0_1 a0_2 a0_3 a0_4 a0_5 a0_6 a0_7).bind fun t181 => (if a0_3 = 0 then (none) else (some (wrap64 (Int.tdiv t181 a0_3))))
set_option maxHeartbeats 8000000 in
set_option maxRecDepth 100000 in
theorem config_asked_lead.calls (a0_0 : Int) (a0_1 : Int) (a0_2 : Int) (a0_3 : Int) (a0_4 : Int) (a0_5 : Int) (a0_6 : Int) (a0_7 : Int) (r : Int) (w : World) (h : config_asked_lead.f a0_0 a0_1 a0_2 a0_3 a0_4 a0_5 a0_6 a0_7 = some r) :
  Calls Try.prog 80 #[.agg #[.int .i64 a0_0, .int .i64 a0_1, .int .i64 a0_2, .int .i64 a0_3, .int .i64 a0_4, .int .i64 a0_5, .int .i64 a0_6, .int .i64 a0_7]] w fun e w' => e = .returned (.int .i64 r) ∧ Below w.heap.size w w' := by
 have hu78 := Try.underlying78
 have HB := Aside0.mk (Below.refl w.heap.size w)
 have H : ((config_asked_fairSize.f a0_0 a0_1 a0_2 a0_3 a0_4 a0_5 a0_6 a0_7).bind fun t181 => (if a0_3 = 0 then (none) else (some (wrap64 (Int.tdiv t181 a0_3))))) = some r := h
 clear h; replace H := Option.bind_eq_some_iff.mp H; obtain ⟨t181, A20, H⟩ := H; replace H : (if a0_3 = 0 then (none) else (some (wrap64 (Int.tdiv t181 a0_3)))) = some r := H; have A2 := Aside0.mk A20; clear A20
 by_cases c3 : a0_3 = 0
 ·rw [if_pos c3] at H
  exact absurd H (by simp)
 ·rw [if_neg c3] at H
  have c3b0 : (a0_3 == 0) = false := beq_eq_false_iff_ne.mpr c3
  have c3b1 : (a0_3 != 0) = true := bne_iff_ne.mpr c3
  obtain rfl := Option.some.inj H
  go_enter Try.func80, Try.ntmps80
  try go_wp2_with (first | ((with_reducible refine gate_dst (N := 1) rfl ?_); refine bxA 1 #[.int .i64 a0_0, .int .i64 a0_1, .int .i64 a0_2, .int .i64 a0_3, .int .i64 a0_4, .int .i64 a0_5, .int .i64 a0_6, .int .i64 a0_7] 78 ?_; intro gb180 hg w4 hbox hb; have n0_ := Aside0.mk (below_step bA hb); have n1_ := Aside0.mk (hbox); have n2_ := Aside0.mk (gwA hg bA); have n3_ := Aside0.mk (gwA hg bA); clear HB; have HB := n0_; have BK180 := n1_; have GW180 := n2_; have GE180 := n3_; clear n0_ n1_ n2_ n3_ hb hbox hg))
  have n0_ := Aside0.mk (blk_drew BK180.out); have n1_ := Aside0.mk (below_drew1 HB.out); clear BK180 HB; have BK180 := n0_; have HB := n1_; clear n0_ n1_
  refine start_ (n := 7) (S := fun w' => w'.cell? ⟨gb180, 0, none⟩ = some (.int .i64 a0_0) ∧ w'.cell? ⟨gb180, 1, none⟩ = some (.int .i64 a0_1) ∧ w'.cell? ⟨gb180, 2, none⟩ = some (.int .i64 a0_2) ∧ w'.cell? ⟨gb180, 3, none⟩ = some (.int .i64 a0_3) ∧ w'.cell? ⟨gb180, 4, none⟩ = some (.int .i64 a0_4) ∧ w'.cell? ⟨gb180, 5, none⟩ = some (.int .i64 a0_5) ∧ w'.cell? ⟨gb180, 6, none⟩ = some (.int .i64 a0_6) ∧ w'.cell? ⟨gb180, 7, none⟩ = some (.int .i64 a0_7)) (ds := []) #[false, false, false, false, false, false, false] (by kernel_rfl) rfl rfl ⟨(blk_cell BK180.out 0).trans rfl, (blk_cell BK180.out 1).trans rfl, (blk_cell BK180.out 2).trans rfl, (blk_cell BK180.out 3).trans rfl, (blk_cell BK180.out 4).trans rfl, (blk_cell BK180.out 5).trans rfl, (blk_cell BK180.out 6).trans rfl, (blk_cell BK180.out 7).trans rfl⟩ (fun hHeld => ?_)
  generalize w4.drew = w5 at BK180 HB hHeld ⊢
  refine pure_ (i := 2) (N := some 5) (v := ?_) (a' := ?_) #[false, false, true, false, false, false, false] rfl rfl (by kernel_rfl) (fun _ _ _ h => h) (Or.inl ⟨by rfl, ?_⟩) ?_ ?_
  rotate_left
  ·intro w'
   go_simp; with_reducible rfl
  rotate_left
  ·simp only [Act.put, List.setIfInBounds_toArray, List.set_cons_zero, List.set_cons_succ, i64_w, i32_w]
   rfl
  refine pure_ (i := 3) (N := some 6) (v := ?_) (a' := ?_) #[false, false, true, true, false, false, false] rfl rfl (by kernel_rfl) (fun _ _ _ h => h) (Or.inl ⟨by rfl, ?_⟩) ?_ ?_
  rotate_left
  ·intro w'
   go_simp; with_reducible rfl
  rotate_left
  ·simp only [Act.put, List.setIfInBounds_toArray, List.set_cons_zero, List.set_cons_succ, i64_w, i32_w]
   rfl
  refine take_ (i := 0) (N := some 3) (v := ?_) (a' := ?_) #[true, false, true, true, false, false, false] rfl rfl (by kernel_rfl) (fun _ _ _ h => h) (Or.inl ⟨by rfl, ?_⟩) hHeld ?_ ?_
  rotate_left
  ·rintro w' ⟨s0, s1, s2, s3, s4, s5, s6, s7⟩
   go_simp; with_reducible rfl
  rotate_left
  ·simp only [Act.put, List.setIfInBounds_toArray, List.set_cons_zero, List.set_cons_succ, i64_w, i32_w]
   rfl
  refine take_ (i := 4) (N := some 7) (v := ?_) (a' := ?_) #[true, false, true, true, true, false, false] rfl rfl (by kernel_rfl) (fun _ _ _ h => h) (Or.inl ⟨by rfl, ?_⟩) hHeld ?_ ?_
  rotate_left
  ·rintro w' ⟨s0, s1, s2, s3, s4, s5, s6, s7⟩
   go_simp; with_reducible rfl
  rotate_left
  ·simp only [Act.put, List.setIfInBounds_toArray, List.set_cons_zero, List.set_cons_succ, i64_w, i32_w]
   rfl
  refine one_ (i := 1) (N := some 4) #[true, true, true, true, true, false, false] rfl rfl (by kernel_rfl) (by decide) (fun K hK => ?_)
  refine goes_ Try.func103 (by kernel_rfl) rfl #[.agg #[.int .i64 a0_0, .int .i64 a0_1, .int .i64 a0_2, .int .i64 a0_3, .int .i64 a0_4, .int .i64 a0_5, .int .i64 a0_6, .int .i64 a0_7]] (by rfl) rfl rfl aA ?_
  with_reducible refine (config_asked_fairSize.calls a0_0 a0_1 a0_2 a0_3 a0_4 a0_5 a0_6 a0_7 t181 _ A2.out).mono ?_
  rintro e w6 ⟨rfl, hb⟩
  refine ⟨_, rfl, ?_⟩; have n0_ := Aside0.mk (blk_below (g := gb180) kA hb); have n1_ := Aside0.mk (below_step bA hb); clear BK180 HB; have BK180 := n0_; have HB := n1_; clear n0_ n1_; (try clear hb)
  refine hK.out _ _ ⟨(blk_cell BK180.out 0).trans rfl, (blk_cell BK180.out 1).trans rfl, (blk_cell BK180.out 2).trans rfl, (blk_cell BK180.out 3).trans rfl, (blk_cell BK180.out 4).trans rfl, (blk_cell BK180.out 5).trans rfl, (blk_cell BK180.out 6).trans rfl, (blk_cell BK180.out 7).trans rfl⟩ (fun hHeld => ?_)
  clear hK K
  refine norm_ (a' := ?_) ?_ ?_
  rotate_left
  ·show Act.put _ (some 4) _ = _
   simp only [Act.put, List.setIfInBounds_toArray, List.set_cons_zero, List.set_cons_succ, i64_w, i32_w]
   rfl
  refine pure_ (i := 5) (N := some 8) (v := ?_) (a' := ?_) #[true, true, true, true, true, true, false] rfl rfl (by kernel_rfl) (fun _ _ _ h => h) (Or.inl ⟨by rfl, ?_⟩) ?_ ?_
  rotate_left
  ·intro w'
   go_simp; with_reducible rfl
  rotate_left
  ·simp only [Act.put, List.setIfInBounds_toArray, List.set_cons_zero, List.set_cons_succ, i64_w, i32_w]
   rfl
  refine pure_ (i := 6) (N := some 2) (v := ?_) (a' := ?_) #[true, true, true, true, true, true, true] rfl rfl (by kernel_rfl) (fun _ _ _ h => h) (Or.inl ⟨by rfl, ?_⟩) ?_ ?_
  rotate_left
  ·intro w'
   go_simp; with_reducible rfl
  rotate_left
  ·simp only [Act.put, List.setIfInBounds_toArray, List.set_cons_zero, List.set_cons_succ, i64_w, i32_w]
   rfl
  refine done_ (by kernel_rfl) ?_
  try go_wp2
  go_ret
  exact ⟨by first | rfl | (simp [errW_none, errW_some] <;> rfl) | (simp [*, errW_none, errW_some] <;> rfl), bA⟩

/-! ### config_asked_bound: function 82 -/
def config_asked_bound.f (a0_0 : Int) (a0_1 : Int) (a0_2 : Int) (a0_3 : Int) (a0_4 : Int) (a0_5 : Int) (a0_6 : Int) (a0_7 : Int) : Option (Int) := (config_asked_lead.f a0_0 a0_1 a0_2 a0_3 a0_4 a0_5 a0_6 a0_7).bind fun t183 => (some (wrap64 ((wrap64 (t183 + 1)) + (wrap64 (a0_1 * a0_2)))))
def config_asked_bound.T1 : Bool × List (List Nat × List Nat) := (true, [([], []), ([0], [0]), ([1], [1]), ([], []), ([3], [3]), ([4], [4]), ([], []), ([6], [6]), ([7], [7]), ([5, 8], [5, 8]), ([2, 9], [2, 9]), ([10, 1, 0, 1, 2, 3, 4, 5, 6, 7, 8, 9, 10], [10])])
def config_asked_bound.B1 : List Nat := [0, 1, 3, 0, 8, 24, 0, 64, 192, 504, 1023, 2047]
theorem config_asked_bound.tab1 : rtab .any (opsOf Try.f82 1) = config_asked_bound.T1 := by kernel_rfl
theorem config_asked_bound.bits1 : waitsOk config_asked_bound.T1.2 config_asked_bound.B1 = true := by kernel_rfl
set_option maxHeartbeats 8000000 in
set_option maxRecDepth 100000 in
theorem config_asked_bound.calls (a0_0 : Int) (a0_1 : Int) (a0_2 : Int) (a0_3 : Int) (a0_4 : Int) (a0_5 : Int) (a0_6 : Int) (a0_7 : Int) (r : Int) (w : World) (h : config_asked_bound.f a0_0 a0_1 a0_2 a0_3 a0_4 a0_5 a0_6 a0_7 = some r) :
  Calls Try.prog 82 #[.agg #[.int .i64 a0_0, .int .i64 a0_1, .int .i64 a0_2, .int .i64 a0_3, .int .i64 a0_4, .int .i64 a0_5, .int .i64 a0_6, .int .i64 a0_7]] w fun e w' => e = .returned (.int .i64 r) ∧ Below w.heap.size w w' := by
 have hu78 := Try.underlying78
 have HB := Aside0.mk (Below.refl w.heap.size w)
 have H : ((config_asked_lead.f a0_0 a0_1 a0_2 a0_3 a0_4 a0_5 a0_6 a0_7).bind fun t183 => (some (wrap64 ((wrap64 (t183 + 1)) + (wrap64 (a0_1 * a0_2)))))) = some r := h
 clear h; replace H := Option.bind_eq_some_iff.mp H; obtain ⟨t183, A20, H⟩ := H; replace H : (some (wrap64 ((wrap64 (t183 + 1)) + (wrap64 (a0_1 * a0_2))))) = some r := H; have A2 := Aside0.mk A20; clear A20
 obtain rfl := Option.some.inj H
 go_enter Try.func82, Try.ntmps82
 try go_wp2_with (first | ((with_reducible refine gate_dst (N := 1) rfl ?_); refine bxA 1 #[.int .i64 a0_0, .int .i64 a0_1, .int .i64 a0_2, .int .i64 a0_3, .int .i64 a0_4, .int .i64 a0_5, .int .i64 a0_6, .int .i64 a0_7] 78 ?_; intro gb182 hg w3 hbox hb; have n0_ := Aside0.mk (below_step bA hb); have n1_ := Aside0.mk (hbox); have n2_ := Aside0.mk (gwA hg bA); have n3_ := Aside0.mk (gwA hg bA); clear HB; have HB := n0_; have BK182 := n1_; have GW182 := n2_; have GE182 := n3_; clear n0_ n1_ n2_ n3_ hb hbox hg))
 have n0_ := Aside0.mk (blk_drew BK182.out); have n1_ := Aside0.mk (below_drew1 HB.out); clear BK182 HB; have BK182 := n0_; have HB := n1_; clear n0_ n1_
 refine start_ (n := 12) (S := fun w' => w'.cell? ⟨gb182, 0, none⟩ = some (.int .i64 a0_0) ∧ w'.cell? ⟨gb182, 1, none⟩ = some (.int .i64 a0_1) ∧ w'.cell? ⟨gb182, 2, none⟩ = some (.int .i64 a0_2) ∧ w'.cell? ⟨gb182, 3, none⟩ = some (.int .i64 a0_3) ∧ w'.cell? ⟨gb182, 4, none⟩ = some (.int .i64 a0_4) ∧ w'.cell? ⟨gb182, 5, none⟩ = some (.int .i64 a0_5) ∧ w'.cell? ⟨gb182, 6, none⟩ = some (.int .i64 a0_6) ∧ w'.cell? ⟨gb182, 7, none⟩ = some (.int .i64 a0_7)) (ds := []) #[false, false, false, false, false, false, false, false, false, false, false, false] (by kernel_rfl) rfl rfl ⟨(blk_cell BK182.out 0).trans rfl, (blk_cell BK182.out 1).trans rfl, (blk_cell BK182.out 2).trans rfl, (blk_cell BK182.out 3).trans rfl, (blk_cell BK182.out 4).trans rfl, (blk_cell BK182.out 5).trans rfl, (blk_cell BK182.out 6).trans rfl, (blk_cell BK182.out 7).trans rfl⟩ (fun hHeld => ?_); refine with_tabW config_asked_bound.tab1 config_asked_bound.bits1 (fun HT_ HW_ => ?_)
 generalize w3.drew = w4 at BK182 HB hHeld ⊢
 refine pure_ (i := 3) (N := some 6) (v := ?_) (a' := ?_) #[false, false, false, true, false, false, false, false, false, false, false, false] rfl rfl (any_of HT_.out (by kernel_rfl)) (fun _ _ _ h => h) (Or.inl ⟨by rfl, ?_⟩) ?_ ?_
 rotate_left
 ·intro w'
  go_simp; with_reducible rfl
 rotate_left
 ·simp only [Act.put, List.setIfInBounds_toArray, List.set_cons_zero, List.set_cons_succ, i64_w, i32_w]
  rfl
 refine pure_ (i := 4) (N := some 7) (v := ?_) (a' := ?_) #[false, false, false, true, true, false, false, false, false, false, false, false] rfl rfl (any_of HT_.out (by kernel_rfl)) (fun _ _ _ h => h) (Or.inl ⟨by rfl, ?_⟩) ?_ ?_
 rotate_left
 ·intro w'
  go_simp; with_reducible rfl
 rotate_left
 ·simp only [Act.put, List.setIfInBounds_toArray, List.set_cons_zero, List.set_cons_succ, i64_w, i32_w]
  rfl
 refine pure_ (i := 6) (N := some 9) (v := ?_) (a' := ?_) #[false, false, false, true, true, false, true, false, false, false, false, false] rfl rfl (any_of HT_.out (by kernel_rfl)) (fun _ _ _ h => h) (Or.inl ⟨by rfl, ?_⟩) ?_ ?_
 rotate_left
 ·intro w'
  go_simp; with_reducible rfl
 rotate_left
 ·simp only [Act.put, List.setIfInBounds_toArray, List.set_cons_zero, List.set_cons_succ, i64_w, i32_w]
  rfl
 refine pure_ (i := 7) (N := some 10) (v := ?_) (a' := ?_) #[false, false, false, true, true, false, true, true, false, false, false, false] rfl rfl (any_of HT_.out (by kernel_rfl)) (fun _ _ _ h => h) (Or.inl ⟨by rfl, ?_⟩) ?_ ?_
 rotate_left
 ·intro w'
  go_simp; with_reducible rfl
 rotate_left
 ·simp only [Act.put, List.setIfInBounds_toArray, List.set_cons_zero, List.set_cons_succ, i64_w, i32_w]
  rfl
 refine take_ (i := 0) (N := some 3) (v := ?_) (a' := ?_) #[true, false, false, true, true, false, true, true, false, false, false, false] rfl rfl (take_ofW HT_.out HW_.out (by kernel_rfl)) (fun _ _ _ h => h) (Or.inl ⟨by rfl, ?_⟩) hHeld ?_ ?_
 rotate_left
 ·rintro w' ⟨s0, s1, s2, s3, s4, s5, s6, s7⟩
  go_simp; with_reducible rfl
 rotate_left
 ·simp only [Act.put, List.setIfInBounds_toArray, List.set_cons_zero, List.set_cons_succ, i64_w, i32_w]
  rfl
 refine take_ (i := 5) (N := some 8) (v := ?_) (a' := ?_) #[true, false, false, true, true, true, true, true, false, false, false, false] rfl rfl (take_ofW HT_.out HW_.out (by kernel_rfl)) (fun _ _ _ h => h) (Or.inl ⟨by rfl, ?_⟩) hHeld ?_ ?_
 rotate_left
 ·rintro w' ⟨s0, s1, s2, s3, s4, s5, s6, s7⟩
  go_simp; with_reducible rfl
 rotate_left
 ·simp only [Act.put, List.setIfInBounds_toArray, List.set_cons_zero, List.set_cons_succ, i64_w, i32_w]
  rfl
 refine take_ (i := 8) (N := some 11) (v := ?_) (a' := ?_) #[true, false, false, true, true, true, true, true, true, false, false, false] rfl rfl (take_ofW HT_.out HW_.out (by kernel_rfl)) (fun _ _ _ h => h) (Or.inl ⟨by rfl, ?_⟩) hHeld ?_ ?_
 rotate_left
 ·rintro w' ⟨s0, s1, s2, s3, s4, s5, s6, s7⟩
  go_simp; with_reducible rfl
 rotate_left
 ·simp only [Act.put, List.setIfInBounds_toArray, List.set_cons_zero, List.set_cons_succ, i64_w, i32_w]
  rfl
 refine pure_ (i := 9) (N := some 12) (v := ?_) (a' := ?_) #[true, false, false, true, true, true, true, true, true, true, false, false] rfl rfl (any_of HT_.out (by kernel_rfl)) (fun _ _ _ h => h) (Or.inl ⟨by rfl, ?_⟩) ?_ ?_
 rotate_left
 ·intro w'
  go_simp; with_reducible rfl
 rotate_left
 ·simp only [Act.put, List.setIfInBounds_toArray, List.set_cons_zero, List.set_cons_succ, i64_w, i32_w]
  rfl
 refine one_ (i := 1) (N := some 4) #[true, true, false, true, true, true, true, true, true, true, false, false] rfl rfl (one_of HT_.out (by kernel_rfl)) (by decide) (fun K hK => ?_)
 refine goes_ Try.func80 (by kernel_rfl) rfl #[.agg #[.int .i64 a0_0, .int .i64 a0_1, .int .i64 a0_2, .int .i64 a0_3, .int .i64 a0_4, .int .i64 a0_5, .int .i64 a0_6, .int .i64 a0_7]] (by rfl) rfl rfl aA ?_
 with_reducible refine (config_asked_lead.calls a0_0 a0_1 a0_2 a0_3 a0_4 a0_5 a0_6 a0_7 t183 _ A2.out).mono ?_
 rintro e w5 ⟨rfl, hb⟩
 refine ⟨_, rfl, ?_⟩; have n0_ := Aside0.mk (blk_below (g := gb182) kA hb); have n1_ := Aside0.mk (below_step bA hb); clear BK182 HB; have BK182 := n0_; have HB := n1_; clear n0_ n1_; (try clear hb)
 refine hK.out _ _ ⟨(blk_cell BK182.out 0).trans rfl, (blk_cell BK182.out 1).trans rfl, (blk_cell BK182.out 2).trans rfl, (blk_cell BK182.out 3).trans rfl, (blk_cell BK182.out 4).trans rfl, (blk_cell BK182.out 5).trans rfl, (blk_cell BK182.out 6).trans rfl, (blk_cell BK182.out 7).trans rfl⟩ (fun hHeld => ?_)
 clear hK K
 refine norm_ (a' := ?_) ?_ ?_
 rotate_left
 ·show Act.put _ (some 4) _ = _
  simp only [Act.put, List.setIfInBounds_toArray, List.set_cons_zero, List.set_cons_succ, i64_w, i32_w]
  rfl
 refine pure_ (i := 2) (N := some 5) (v := ?_) (a' := ?_) #[true, true, true, true, true, true, true, true, true, true, false, false] rfl rfl (any_of HT_.out (by kernel_rfl)) (fun _ _ _ h => h) (Or.inl ⟨by rfl, ?_⟩) ?_ ?_
 rotate_left
 ·intro w'
  go_simp; with_reducible rfl
 rotate_left
 ·simp only [Act.put, List.setIfInBounds_toArray, List.set_cons_zero, List.set_cons_succ, i64_w, i32_w]
  rfl
 refine pure_ (i := 10) (N := some 13) (v := ?_) (a' := ?_) #[true, true, true, true, true, true, true, true, true, true, true, false] rfl rfl (any_of HT_.out (by kernel_rfl)) (fun _ _ _ h => h) (Or.inl ⟨by rfl, ?_⟩) ?_ ?_
 rotate_left
 ·intro w'
  go_simp; with_reducible rfl
 rotate_left
 ·simp only [Act.put, List.setIfInBounds_toArray, List.set_cons_zero, List.set_cons_succ, i64_w, i32_w]
  rfl
 refine pure_ (i := 11) (N := some 2) (v := ?_) (a' := ?_) #[true, true, true, true, true, true, true, true, true, true, true, true] rfl rfl (any_of HT_.out (by kernel_rfl)) (fun _ _ _ h => h) (Or.inl ⟨by rfl, ?_⟩) ?_ ?_
 rotate_left
 ·intro w'
  go_simp; with_reducible rfl
 rotate_left
 ·simp only [Act.put, List.setIfInBounds_toArray, List.set_cons_zero, List.set_cons_succ, i64_w, i32_w]
  rfl
 refine done_ (done_of HT_.out (by kernel_rfl)) ?_
 try go_wp2
 go_ret
 exact ⟨by first | rfl | (simp [errW_none, errW_some] <;> rfl) | (simp [*, errW_none, errW_some] <;> rfl), bA⟩

end Go.Proofs.Ytcolhngdhlamkaa.GCL
