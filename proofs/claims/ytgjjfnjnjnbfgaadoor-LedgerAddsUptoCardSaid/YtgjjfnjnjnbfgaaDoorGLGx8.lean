-- Laid by a program of this session (wip/tools/pr.py): contracts and pure functions; Lean checks it.
import Derived.Test.YtgjjfnjnjnbfgaaDoorGLGx0
import Derived.Test.YtgjjfnjnjnbfgaaDoorGLGx2
import Derived.Test.YtgjjfnjnjnbfgaaDoorGLGx3
import Derived.Test.YtgjjfnjnjnbfgaaDoorGLGx7
namespace Go.Proofs.YtgjjfnjnjnbfgaaDoor.GLG
open Go.RowKit Go.Proofs.YtgjjfnjnjnbfgaaDoorW.PrintWords Go.Proofs.YtgjjfnjnjnbfgaaDoorW.PrintLast Go.Proofs.YtgjjfnjnjnbfgaaDoorW.PrintMore
attribute [local go_sem] max2_int min2_int max_two min_two max_three min_three max_four min_four   -- for this text's walks alone
set_option linter.unusedVariables false
set_option linter.unusedSimpArgs false

/-! ### config_Check: function 19 -/
def config_Check.f (k : Nat) (a0 a1 a2 a3 a4 a5 a6 a7 : Int) : Option Int := (config_asked_ranges.f k a0 a1 a2 a3 a4 a5 a6 a7).bind fun e1 => if e1 = 0 then ((config_asked_usage.f a0 a1 a2 a3 a4 a5 a6 a7).bind fun e2 => if e2 = 0 then ((config_asked_scale.f a0 a1 a2 a3 a4 a5 a6 a7).bind fun e3 => if e3 = 0 then (config_asked_off.f a0 a1 a2 a3 a4 a5 a6 a7) else some e3) else some e2) else some e1
theorem config_Check.mono : ∀ a0 a1 a2 a3 a4 a5 a6 a7 k, LeO (config_Check.f k a0 a1 a2 a3 a4 a5 a6 a7) (config_Check.f (k + 1) a0 a1 a2 a3 a4 a5 a6 a7) := by
 intro a0 a1 a2 a3 a4 a5 a6 a7 k
 unfold config_Check.f
 exact LeO.bind (config_asked_ranges.mono _ _ _ _ _ _ _ _ _) (fun _ => LeO.refl _)
set_option maxHeartbeats 8000000 in
set_option maxRecDepth 100000 in
theorem config_Check.walk0 (k : Nat) (a0 a1 a2 a3 a4 a5 a6 a7 r : Int) (w : World) (A0 : Aside0 (config_asked_ranges.f k a0 a1 a2 a3 a4 a5 a6 a7 = some r)) (c2b0 : (r != 0) = true) :
  Calls Tryd.prog 19 #[.agg #[.int .i64 a0, .int .i64 a1, .int .i64 a2, .int .i64 a3, .int .i64 a4, .int .i64 a5, .int .i64 a6, .int .i64 a7]] w fun e w' => e = .returned (.int .i64 r) ∧ Below w.heap.size w w' := by
 have hu39 := Tryd.underlying23
 have hu78 := Tryd.underlying77
 have hmf : ∀ (fn : Fn) (first cap : Array Value) (w : World), (Instr.makeFunc fn first cap).run Tryd.prog w = .ok (.func fn first cap) w := fun _ _ _ _ => rfl
 have hix0 : ∀ (x0 x1 x2 x3 : Value) (w : World), (Instr.index 79 (.agg #[x0, x1, x2, x3]) (.int .i64 0)).run Tryd.prog w = .ok x0 w := by intros; kernel_rfl
 have HB := Aside0.mk (Below.refl w.heap.size w)
 go_enter Tryd.func19, Tryd.ntmps19
 go_wp2_with (first | ((with_reducible refine gate_dst (N := 1) rfl ?_); refine bxA 1 #[.int .i64 a0, .int .i64 a1, .int .i64 a2, .int .i64 a3, .int .i64 a4, .int .i64 a5, .int .i64 a6, .int .i64 a7] 23 ?_; intro gb1 hg w5 hbox hb; have n0_ := Aside0.mk (below_step bA hb); have n1_ := Aside0.mk (hbox); have n2_ := Aside0.mk (gwA hg bA); clear HB; have HB := n0_; have BKgb1 := n1_; have GE1 := n2_; clear n0_ n1_ n2_ hb hbox hg; have hcz1_0 : w5.cell? ⟨gb1, 0, none⟩ = some (.int .i64 a0) := (blk_cell BKgb1.out 0).trans rfl; have hcz1_1 : w5.cell? ⟨gb1, 1, none⟩ = some (.int .i64 a1) := (blk_cell BKgb1.out 1).trans rfl; have hcz1_2 : w5.cell? ⟨gb1, 2, none⟩ = some (.int .i64 a2) := (blk_cell BKgb1.out 2).trans rfl; have hcz1_3 : w5.cell? ⟨gb1, 3, none⟩ = some (.int .i64 a3) := (blk_cell BKgb1.out 3).trans rfl; have hcz1_4 : w5.cell? ⟨gb1, 4, none⟩ = some (.int .i64 a4) := (blk_cell BKgb1.out 4).trans rfl; have hcz1_5 : w5.cell? ⟨gb1, 5, none⟩ = some (.int .i64 a5) := (blk_cell BKgb1.out 5).trans rfl; have hcz1_6 : w5.cell? ⟨gb1, 6, none⟩ = some (.int .i64 a6) := (blk_cell BKgb1.out 6).trans rfl; have hcz1_7 : w5.cell? ⟨gb1, 7, none⟩ = some (.int .i64 a7) := (blk_cell BKgb1.out 7).trans rfl; have hfz1_0 := blk_frozen BKgb1.out 0; have hfz1_1 := blk_frozen BKgb1.out 1; have hfz1_2 := blk_frozen BKgb1.out 2; have hfz1_3 := blk_frozen BKgb1.out 3; have hfz1_4 := blk_frozen BKgb1.out 4; have hfz1_5 := blk_frozen BKgb1.out 5; have hfz1_6 := blk_frozen BKgb1.out 6; have hfz1_7 := blk_frozen BKgb1.out 7) | ((with_reducible refine gate_dst (N := 3) rfl ?_); refine bxA 3 #[.int .i64 0, .int .i64 0, .int .i64 0, .int .i64 0, .int .i64 0, .int .i64 0, .int .i64 0, .int .i64 0] 77 ?_; intro gb2 hg w6 hbox hb; have n0_ := Aside0.mk (below_step bA hb); have n1_ := Aside0.mk (hbox); have n2_ := Aside0.mk (gwA hg bA); clear HB; have HB := n0_; have BKgb2 := n1_; have GE2 := n2_; clear n0_ n1_ n2_ hb hbox hg; have hcy0 : w6.cell? ⟨gb2, 0, none⟩ = some (.int .i64 0) := (blk_cell BKgb2.out 0).trans rfl; have hcy1 : w6.cell? ⟨gb2, 1, none⟩ = some (.int .i64 0) := (blk_cell BKgb2.out 1).trans rfl; have hcy2 : w6.cell? ⟨gb2, 2, none⟩ = some (.int .i64 0) := (blk_cell BKgb2.out 2).trans rfl; have hcy3 : w6.cell? ⟨gb2, 3, none⟩ = some (.int .i64 0) := (blk_cell BKgb2.out 3).trans rfl; have hcy4 : w6.cell? ⟨gb2, 4, none⟩ = some (.int .i64 0) := (blk_cell BKgb2.out 4).trans rfl; have hcy5 : w6.cell? ⟨gb2, 5, none⟩ = some (.int .i64 0) := (blk_cell BKgb2.out 5).trans rfl; have hcy6 : w6.cell? ⟨gb2, 6, none⟩ = some (.int .i64 0) := (blk_cell BKgb2.out 6).trans rfl; have hcy7 : w6.cell? ⟨gb2, 7, none⟩ = some (.int .i64 0) := (blk_cell BKgb2.out 7).trans rfl; have hfy0 := blk_frozen BKgb2.out 0; have hfy1 := blk_frozen BKgb2.out 1; have hfy2 := blk_frozen BKgb2.out 2; have hfy3 := blk_frozen BKgb2.out 3; have hfy4 := blk_frozen BKgb2.out 4; have hfy5 := blk_frozen BKgb2.out 5; have hfy6 := blk_frozen BKgb2.out 6; have hfy7 := blk_frozen BKgb2.out 7))
 have HB1 := Aside0.mk (show Below w.heap.size w _ from bA (W := ((((((((w6.setCell ⟨gb2, 0, none⟩ (.int .i64 a0)).setCell ⟨gb2, 1, none⟩ (.int .i64 a1)).setCell ⟨gb2, 2, none⟩ (.int .i64 a2)).setCell ⟨gb2, 3, none⟩ (.int .i64 a3)).setCell ⟨gb2, 4, none⟩ (.int .i64 a4)).setCell ⟨gb2, 5, none⟩ (.int .i64 a5)).setCell ⟨gb2, 6, none⟩ (.int .i64 a6)).setCell ⟨gb2, 7, none⟩ (.int .i64 a7)))); clear HB
 have HB := HB1
 clear HB1
 generalize ((((((((w6.setCell ⟨gb2, 0, none⟩ (.int .i64 a0)).setCell ⟨gb2, 1, none⟩ (.int .i64 a1)).setCell ⟨gb2, 2, none⟩ (.int .i64 a2)).setCell ⟨gb2, 3, none⟩ (.int .i64 a3)).setCell ⟨gb2, 4, none⟩ (.int .i64 a4)).setCell ⟨gb2, 5, none⟩ (.int .i64 a5)).setCell ⟨gb2, 6, none⟩ (.int .i64 a6)).setCell ⟨gb2, 7, none⟩ (.int .i64 a7)) = w7 at HB ⊢
 refine wp_loop_rounds 5 ?_
 rw [rounds_succ]
 go_wp2_with fail
 refine (config_asked_ranges.calls k a0 a1 a2 a3 a4 a5 a6 a7 r _ A0.out).mono ?_
 rintro e w20 ⟨rfl, hb⟩
 have n0_ := Aside0.mk (below_step bA hb); clear HB; have HB := n0_; clear n0_ hb
 go_wp2_with fail
 go_ret
 exact ⟨by first | rfl | (simp [errW_none, errW_some] <;> rfl) | (simp [*, errW_none, errW_some] <;> rfl), bA⟩
set_option maxHeartbeats 8000000 in
set_option maxRecDepth 100000 in
theorem config_Check.walk1 (k : Nat) (a0 a1 a2 a3 a4 a5 a6 a7 r : Int) (w : World) (A0 : Aside0 (config_asked_ranges.f k a0 a1 a2 a3 a4 a5 a6 a7 = some 0)) (A1 : Aside0 (config_asked_usage.f a0 a1 a2 a3 a4 a5 a6 a7 = some r)) (c2b0 : (r != 0) = true) :
  Calls Tryd.prog 19 #[.agg #[.int .i64 a0, .int .i64 a1, .int .i64 a2, .int .i64 a3, .int .i64 a4, .int .i64 a5, .int .i64 a6, .int .i64 a7]] w fun e w' => e = .returned (.int .i64 r) ∧ Below w.heap.size w w' := by
 have hu39 := Tryd.underlying23
 have hu78 := Tryd.underlying77
 have hmf : ∀ (fn : Fn) (first cap : Array Value) (w : World), (Instr.makeFunc fn first cap).run Tryd.prog w = .ok (.func fn first cap) w := fun _ _ _ _ => rfl
 have hix0 : ∀ (x0 x1 x2 x3 : Value) (w : World), (Instr.index 79 (.agg #[x0, x1, x2, x3]) (.int .i64 0)).run Tryd.prog w = .ok x0 w := by intros; kernel_rfl
 have hix1 : ∀ (x0 x1 x2 x3 : Value) (w : World), (Instr.index 79 (.agg #[x0, x1, x2, x3]) (.int .i64 1)).run Tryd.prog w = .ok x1 w := by intros; kernel_rfl
 have HB := Aside0.mk (Below.refl w.heap.size w)
 go_enter Tryd.func19, Tryd.ntmps19
 go_wp2_with (first | ((with_reducible refine gate_dst (N := 1) rfl ?_); refine bxA 1 #[.int .i64 a0, .int .i64 a1, .int .i64 a2, .int .i64 a3, .int .i64 a4, .int .i64 a5, .int .i64 a6, .int .i64 a7] 23 ?_; intro gb1 hg w5 hbox hb; have n0_ := Aside0.mk (below_step bA hb); have n1_ := Aside0.mk (hbox); have n2_ := Aside0.mk (gwA hg bA); clear HB; have HB := n0_; have BKgb1 := n1_; have GE1 := n2_; clear n0_ n1_ n2_ hb hbox hg; have hcz1_0 : w5.cell? ⟨gb1, 0, none⟩ = some (.int .i64 a0) := (blk_cell BKgb1.out 0).trans rfl; have hcz1_1 : w5.cell? ⟨gb1, 1, none⟩ = some (.int .i64 a1) := (blk_cell BKgb1.out 1).trans rfl; have hcz1_2 : w5.cell? ⟨gb1, 2, none⟩ = some (.int .i64 a2) := (blk_cell BKgb1.out 2).trans rfl; have hcz1_3 : w5.cell? ⟨gb1, 3, none⟩ = some (.int .i64 a3) := (blk_cell BKgb1.out 3).trans rfl; have hcz1_4 : w5.cell? ⟨gb1, 4, none⟩ = some (.int .i64 a4) := (blk_cell BKgb1.out 4).trans rfl; have hcz1_5 : w5.cell? ⟨gb1, 5, none⟩ = some (.int .i64 a5) := (blk_cell BKgb1.out 5).trans rfl; have hcz1_6 : w5.cell? ⟨gb1, 6, none⟩ = some (.int .i64 a6) := (blk_cell BKgb1.out 6).trans rfl; have hcz1_7 : w5.cell? ⟨gb1, 7, none⟩ = some (.int .i64 a7) := (blk_cell BKgb1.out 7).trans rfl; have hfz1_0 := blk_frozen BKgb1.out 0; have hfz1_1 := blk_frozen BKgb1.out 1; have hfz1_2 := blk_frozen BKgb1.out 2; have hfz1_3 := blk_frozen BKgb1.out 3; have hfz1_4 := blk_frozen BKgb1.out 4; have hfz1_5 := blk_frozen BKgb1.out 5; have hfz1_6 := blk_frozen BKgb1.out 6; have hfz1_7 := blk_frozen BKgb1.out 7) | ((with_reducible refine gate_dst (N := 3) rfl ?_); refine bxA 3 #[.int .i64 0, .int .i64 0, .int .i64 0, .int .i64 0, .int .i64 0, .int .i64 0, .int .i64 0, .int .i64 0] 77 ?_; intro gb2 hg w6 hbox hb; have n0_ := Aside0.mk (below_step bA hb); have n1_ := Aside0.mk (hbox); have n2_ := Aside0.mk (gwA hg bA); clear HB; have HB := n0_; have BKgb2 := n1_; have GE2 := n2_; clear n0_ n1_ n2_ hb hbox hg; have hcy0 : w6.cell? ⟨gb2, 0, none⟩ = some (.int .i64 0) := (blk_cell BKgb2.out 0).trans rfl; have hcy1 : w6.cell? ⟨gb2, 1, none⟩ = some (.int .i64 0) := (blk_cell BKgb2.out 1).trans rfl; have hcy2 : w6.cell? ⟨gb2, 2, none⟩ = some (.int .i64 0) := (blk_cell BKgb2.out 2).trans rfl; have hcy3 : w6.cell? ⟨gb2, 3, none⟩ = some (.int .i64 0) := (blk_cell BKgb2.out 3).trans rfl; have hcy4 : w6.cell? ⟨gb2, 4, none⟩ = some (.int .i64 0) := (blk_cell BKgb2.out 4).trans rfl; have hcy5 : w6.cell? ⟨gb2, 5, none⟩ = some (.int .i64 0) := (blk_cell BKgb2.out 5).trans rfl; have hcy6 : w6.cell? ⟨gb2, 6, none⟩ = some (.int .i64 0) := (blk_cell BKgb2.out 6).trans rfl; have hcy7 : w6.cell? ⟨gb2, 7, none⟩ = some (.int .i64 0) := (blk_cell BKgb2.out 7).trans rfl; have hfy0 := blk_frozen BKgb2.out 0; have hfy1 := blk_frozen BKgb2.out 1; have hfy2 := blk_frozen BKgb2.out 2; have hfy3 := blk_frozen BKgb2.out 3; have hfy4 := blk_frozen BKgb2.out 4; have hfy5 := blk_frozen BKgb2.out 5; have hfy6 := blk_frozen BKgb2.out 6; have hfy7 := blk_frozen BKgb2.out 7))
 have HB1 := Aside0.mk (show Below w.heap.size w _ from bA (W := ((((((((w6.setCell ⟨gb2, 0, none⟩ (.int .i64 a0)).setCell ⟨gb2, 1, none⟩ (.int .i64 a1)).setCell ⟨gb2, 2, none⟩ (.int .i64 a2)).setCell ⟨gb2, 3, none⟩ (.int .i64 a3)).setCell ⟨gb2, 4, none⟩ (.int .i64 a4)).setCell ⟨gb2, 5, none⟩ (.int .i64 a5)).setCell ⟨gb2, 6, none⟩ (.int .i64 a6)).setCell ⟨gb2, 7, none⟩ (.int .i64 a7)))); clear HB
 have HB := HB1
 clear HB1
 generalize ((((((((w6.setCell ⟨gb2, 0, none⟩ (.int .i64 a0)).setCell ⟨gb2, 1, none⟩ (.int .i64 a1)).setCell ⟨gb2, 2, none⟩ (.int .i64 a2)).setCell ⟨gb2, 3, none⟩ (.int .i64 a3)).setCell ⟨gb2, 4, none⟩ (.int .i64 a4)).setCell ⟨gb2, 5, none⟩ (.int .i64 a5)).setCell ⟨gb2, 6, none⟩ (.int .i64 a6)).setCell ⟨gb2, 7, none⟩ (.int .i64 a7)) = w7 at HB ⊢
 refine wp_loop_rounds 5 ?_
 rw [rounds_succ]
 go_wp2_with fail
 refine (config_asked_ranges.calls k a0 a1 a2 a3 a4 a5 a6 a7 0 _ A0.out).mono ?_
 rintro e w20 ⟨rfl, hb⟩
 have n0_ := Aside0.mk (below_step bA hb); clear HB; have HB := n0_; clear n0_ hb
 go_wp2_with fail
 rw [rounds_succ]
 go_wp2_with fail
 refine (config_asked_usage.calls a0 a1 a2 a3 a4 a5 a6 a7 r _ A1.out).mono ?_
 rintro e w21 ⟨rfl, hb⟩
 have n0_ := Aside0.mk (below_step bA hb); clear HB; have HB := n0_; clear n0_ hb
 go_wp2_with fail
 go_ret
 exact ⟨by first | rfl | (simp [errW_none, errW_some] <;> rfl) | (simp [*, errW_none, errW_some] <;> rfl), bA⟩
set_option maxHeartbeats 8000000 in
set_option maxRecDepth 100000 in
theorem config_Check.walk2 (k : Nat) (a0 a1 a2 a3 a4 a5 a6 a7 r : Int) (w : World) (A0 : Aside0 (config_asked_ranges.f k a0 a1 a2 a3 a4 a5 a6 a7 = some 0)) (A1 : Aside0 (config_asked_usage.f a0 a1 a2 a3 a4 a5 a6 a7 = some 0)) (A2 : Aside0 (config_asked_scale.f a0 a1 a2 a3 a4 a5 a6 a7 = some r)) (c2b0 : (r != 0) = true) :
  Calls Tryd.prog 19 #[.agg #[.int .i64 a0, .int .i64 a1, .int .i64 a2, .int .i64 a3, .int .i64 a4, .int .i64 a5, .int .i64 a6, .int .i64 a7]] w fun e w' => e = .returned (.int .i64 r) ∧ Below w.heap.size w w' := by
 have hu39 := Tryd.underlying23
 have hu78 := Tryd.underlying77
 have hmf : ∀ (fn : Fn) (first cap : Array Value) (w : World), (Instr.makeFunc fn first cap).run Tryd.prog w = .ok (.func fn first cap) w := fun _ _ _ _ => rfl
 have hix0 : ∀ (x0 x1 x2 x3 : Value) (w : World), (Instr.index 79 (.agg #[x0, x1, x2, x3]) (.int .i64 0)).run Tryd.prog w = .ok x0 w := by intros; kernel_rfl
 have hix1 : ∀ (x0 x1 x2 x3 : Value) (w : World), (Instr.index 79 (.agg #[x0, x1, x2, x3]) (.int .i64 1)).run Tryd.prog w = .ok x1 w := by intros; kernel_rfl
 have hix2 : ∀ (x0 x1 x2 x3 : Value) (w : World), (Instr.index 79 (.agg #[x0, x1, x2, x3]) (.int .i64 2)).run Tryd.prog w = .ok x2 w := by intros; kernel_rfl
 have HB := Aside0.mk (Below.refl w.heap.size w)
 go_enter Tryd.func19, Tryd.ntmps19
 go_wp2_with (first | ((with_reducible refine gate_dst (N := 1) rfl ?_); refine bxA 1 #[.int .i64 a0, .int .i64 a1, .int .i64 a2, .int .i64 a3, .int .i64 a4, .int .i64 a5, .int .i64 a6, .int .i64 a7] 23 ?_; intro gb1 hg w5 hbox hb; have n0_ := Aside0.mk (below_step bA hb); have n1_ := Aside0.mk (hbox); have n2_ := Aside0.mk (gwA hg bA); clear HB; have HB := n0_; have BKgb1 := n1_; have GE1 := n2_; clear n0_ n1_ n2_ hb hbox hg; have hcz1_0 : w5.cell? ⟨gb1, 0, none⟩ = some (.int .i64 a0) := (blk_cell BKgb1.out 0).trans rfl; have hcz1_1 : w5.cell? ⟨gb1, 1, none⟩ = some (.int .i64 a1) := (blk_cell BKgb1.out 1).trans rfl; have hcz1_2 : w5.cell? ⟨gb1, 2, none⟩ = some (.int .i64 a2) := (blk_cell BKgb1.out 2).trans rfl; have hcz1_3 : w5.cell? ⟨gb1, 3, none⟩ = some (.int .i64 a3) := (blk_cell BKgb1.out 3).trans rfl; have hcz1_4 : w5.cell? ⟨gb1, 4, none⟩ = some (.int .i64 a4) := (blk_cell BKgb1.out 4).trans rfl; have hcz1_5 : w5.cell? ⟨gb1, 5, none⟩ = some (.int .i64 a5) := (blk_cell BKgb1.out 5).trans rfl; have hcz1_6 : w5.cell? ⟨gb1, 6, none⟩ = some (.int .i64 a6) := (blk_cell BKgb1.out 6).trans rfl; have hcz1_7 : w5.cell? ⟨gb1, 7, none⟩ = some (.int .i64 a7) := (blk_cell BKgb1.out 7).trans rfl; have hfz1_0 := blk_frozen BKgb1.out 0; have hfz1_1 := blk_frozen BKgb1.out 1; have hfz1_2 := blk_frozen BKgb1.out 2; have hfz1_3 := blk_frozen BKgb1.out 3; have hfz1_4 := blk_frozen BKgb1.out 4; have hfz1_5 := blk_frozen BKgb1.out 5; have hfz1_6 := blk_frozen BKgb1.out 6; have hfz1_7 := blk_frozen BKgb1.out 7) | ((with_reducible refine gate_dst (N := 3) rfl ?_); refine bxA 3 #[.int .i64 0, .int .i64 0, .int .i64 0, .int .i64 0, .int .i64 0, .int .i64 0, .int .i64 0, .int .i64 0] 77 ?_; intro gb2 hg w6 hbox hb; have n0_ := Aside0.mk (below_step bA hb); have n1_ := Aside0.mk (hbox); have n2_ := Aside0.mk (gwA hg bA); clear HB; have HB := n0_; have BKgb2 := n1_; have GE2 := n2_; clear n0_ n1_ n2_ hb hbox hg; have hcy0 : w6.cell? ⟨gb2, 0, none⟩ = some (.int .i64 0) := (blk_cell BKgb2.out 0).trans rfl; have hcy1 : w6.cell? ⟨gb2, 1, none⟩ = some (.int .i64 0) := (blk_cell BKgb2.out 1).trans rfl; have hcy2 : w6.cell? ⟨gb2, 2, none⟩ = some (.int .i64 0) := (blk_cell BKgb2.out 2).trans rfl; have hcy3 : w6.cell? ⟨gb2, 3, none⟩ = some (.int .i64 0) := (blk_cell BKgb2.out 3).trans rfl; have hcy4 : w6.cell? ⟨gb2, 4, none⟩ = some (.int .i64 0) := (blk_cell BKgb2.out 4).trans rfl; have hcy5 : w6.cell? ⟨gb2, 5, none⟩ = some (.int .i64 0) := (blk_cell BKgb2.out 5).trans rfl; have hcy6 : w6.cell? ⟨gb2, 6, none⟩ = some (.int .i64 0) := (blk_cell BKgb2.out 6).trans rfl; have hcy7 : w6.cell? ⟨gb2, 7, none⟩ = some (.int .i64 0) := (blk_cell BKgb2.out 7).trans rfl; have hfy0 := blk_frozen BKgb2.out 0; have hfy1 := blk_frozen BKgb2.out 1; have hfy2 := blk_frozen BKgb2.out 2; have hfy3 := blk_frozen BKgb2.out 3; have hfy4 := blk_frozen BKgb2.out 4; have hfy5 := blk_frozen BKgb2.out 5; have hfy6 := blk_frozen BKgb2.out 6; have hfy7 := blk_frozen BKgb2.out 7))
 have HB1 := Aside0.mk (show Below w.heap.size w _ from bA (W := ((((((((w6.setCell ⟨gb2, 0, none⟩ (.int .i64 a0)).setCell ⟨gb2, 1, none⟩ (.int .i64 a1)).setCell ⟨gb2, 2, none⟩ (.int .i64 a2)).setCell ⟨gb2, 3, none⟩ (.int .i64 a3)).setCell ⟨gb2, 4, none⟩ (.int .i64 a4)).setCell ⟨gb2, 5, none⟩ (.int .i64 a5)).setCell ⟨gb2, 6, none⟩ (.int .i64 a6)).setCell ⟨gb2, 7, none⟩ (.int .i64 a7)))); clear HB
 have HB := HB1
 clear HB1
 generalize ((((((((w6.setCell ⟨gb2, 0, none⟩ (.int .i64 a0)).setCell ⟨gb2, 1, none⟩ (.int .i64 a1)).setCell ⟨gb2, 2, none⟩ (.int .i64 a2)).setCell ⟨gb2, 3, none⟩ (.int .i64 a3)).setCell ⟨gb2, 4, none⟩ (.int .i64 a4)).setCell ⟨gb2, 5, none⟩ (.int .i64 a5)).setCell ⟨gb2, 6, none⟩ (.int .i64 a6)).setCell ⟨gb2, 7, none⟩ (.int .i64 a7)) = w7 at HB ⊢
 refine wp_loop_rounds 5 ?_
 rw [rounds_succ]
 go_wp2_with fail
 refine (config_asked_ranges.calls k a0 a1 a2 a3 a4 a5 a6 a7 0 _ A0.out).mono ?_
 rintro e w20 ⟨rfl, hb⟩
 have n0_ := Aside0.mk (below_step bA hb); clear HB; have HB := n0_; clear n0_ hb
 go_wp2_with fail
 rw [rounds_succ]
 go_wp2_with fail
 refine (config_asked_usage.calls a0 a1 a2 a3 a4 a5 a6 a7 0 _ A1.out).mono ?_
 rintro e w21 ⟨rfl, hb⟩
 have n0_ := Aside0.mk (below_step bA hb); clear HB; have HB := n0_; clear n0_ hb
 go_wp2_with fail
 rw [rounds_succ]
 go_wp2_with fail
 refine (config_asked_scale.calls a0 a1 a2 a3 a4 a5 a6 a7 r _ A2.out).mono ?_
 rintro e w22 ⟨rfl, hb⟩
 have n0_ := Aside0.mk (below_step bA hb); clear HB; have HB := n0_; clear n0_ hb
 go_wp2_with fail
 go_ret
 exact ⟨by first | rfl | (simp [errW_none, errW_some] <;> rfl) | (simp [*, errW_none, errW_some] <;> rfl), bA⟩
set_option maxHeartbeats 8000000 in
set_option maxRecDepth 100000 in
theorem config_Check.walk3 (k : Nat) (a0 a1 a2 a3 a4 a5 a6 a7 r : Int) (w : World) (A0 : Aside0 (config_asked_ranges.f k a0 a1 a2 a3 a4 a5 a6 a7 = some 0)) (A1 : Aside0 (config_asked_usage.f a0 a1 a2 a3 a4 a5 a6 a7 = some 0)) (A2 : Aside0 (config_asked_scale.f a0 a1 a2 a3 a4 a5 a6 a7 = some 0)) (A3 : Aside0 (config_asked_off.f a0 a1 a2 a3 a4 a5 a6 a7 = some r)) (c2b0 : (r != 0) = true) :
  Calls Tryd.prog 19 #[.agg #[.int .i64 a0, .int .i64 a1, .int .i64 a2, .int .i64 a3, .int .i64 a4, .int .i64 a5, .int .i64 a6, .int .i64 a7]] w fun e w' => e = .returned (.int .i64 r) ∧ Below w.heap.size w w' := by
 have hu39 := Tryd.underlying23
 have hu78 := Tryd.underlying77
 have hmf : ∀ (fn : Fn) (first cap : Array Value) (w : World), (Instr.makeFunc fn first cap).run Tryd.prog w = .ok (.func fn first cap) w := fun _ _ _ _ => rfl
 have hix0 : ∀ (x0 x1 x2 x3 : Value) (w : World), (Instr.index 79 (.agg #[x0, x1, x2, x3]) (.int .i64 0)).run Tryd.prog w = .ok x0 w := by intros; kernel_rfl
 have hix1 : ∀ (x0 x1 x2 x3 : Value) (w : World), (Instr.index 79 (.agg #[x0, x1, x2, x3]) (.int .i64 1)).run Tryd.prog w = .ok x1 w := by intros; kernel_rfl
 have hix2 : ∀ (x0 x1 x2 x3 : Value) (w : World), (Instr.index 79 (.agg #[x0, x1, x2, x3]) (.int .i64 2)).run Tryd.prog w = .ok x2 w := by intros; kernel_rfl
 have hix3 : ∀ (x0 x1 x2 x3 : Value) (w : World), (Instr.index 79 (.agg #[x0, x1, x2, x3]) (.int .i64 3)).run Tryd.prog w = .ok x3 w := by intros; kernel_rfl
 have HB := Aside0.mk (Below.refl w.heap.size w)
 go_enter Tryd.func19, Tryd.ntmps19
 go_wp2_with (first | ((with_reducible refine gate_dst (N := 1) rfl ?_); refine bxA 1 #[.int .i64 a0, .int .i64 a1, .int .i64 a2, .int .i64 a3, .int .i64 a4, .int .i64 a5, .int .i64 a6, .int .i64 a7] 23 ?_; intro gb1 hg w5 hbox hb; have n0_ := Aside0.mk (below_step bA hb); have n1_ := Aside0.mk (hbox); have n2_ := Aside0.mk (gwA hg bA); clear HB; have HB := n0_; have BKgb1 := n1_; have GE1 := n2_; clear n0_ n1_ n2_ hb hbox hg; have hcz1_0 : w5.cell? ⟨gb1, 0, none⟩ = some (.int .i64 a0) := (blk_cell BKgb1.out 0).trans rfl; have hcz1_1 : w5.cell? ⟨gb1, 1, none⟩ = some (.int .i64 a1) := (blk_cell BKgb1.out 1).trans rfl; have hcz1_2 : w5.cell? ⟨gb1, 2, none⟩ = some (.int .i64 a2) := (blk_cell BKgb1.out 2).trans rfl; have hcz1_3 : w5.cell? ⟨gb1, 3, none⟩ = some (.int .i64 a3) := (blk_cell BKgb1.out 3).trans rfl; have hcz1_4 : w5.cell? ⟨gb1, 4, none⟩ = some (.int .i64 a4) := (blk_cell BKgb1.out 4).trans rfl; have hcz1_5 : w5.cell? ⟨gb1, 5, none⟩ = some (.int .i64 a5) := (blk_cell BKgb1.out 5).trans rfl; have hcz1_6 : w5.cell? ⟨gb1, 6, none⟩ = some (.int .i64 a6) := (blk_cell BKgb1.out 6).trans rfl; have hcz1_7 : w5.cell? ⟨gb1, 7, none⟩ = some (.int .i64 a7) := (blk_cell BKgb1.out 7).trans rfl; have hfz1_0 := blk_frozen BKgb1.out 0; have hfz1_1 := blk_frozen BKgb1.out 1; have hfz1_2 := blk_frozen BKgb1.out 2; have hfz1_3 := blk_frozen BKgb1.out 3; have hfz1_4 := blk_frozen BKgb1.out 4; have hfz1_5 := blk_frozen BKgb1.out 5; have hfz1_6 := blk_frozen BKgb1.out 6; have hfz1_7 := blk_frozen BKgb1.out 7) | ((with_reducible refine gate_dst (N := 3) rfl ?_); refine bxA 3 #[.int .i64 0, .int .i64 0, .int .i64 0, .int .i64 0, .int .i64 0, .int .i64 0, .int .i64 0, .int .i64 0] 77 ?_; intro gb2 hg w6 hbox hb; have n0_ := Aside0.mk (below_step bA hb); have n1_ := Aside0.mk (hbox); have n2_ := Aside0.mk (gwA hg bA); clear HB; have HB := n0_; have BKgb2 := n1_; have GE2 := n2_; clear n0_ n1_ n2_ hb hbox hg; have hcy0 : w6.cell? ⟨gb2, 0, none⟩ = some (.int .i64 0) := (blk_cell BKgb2.out 0).trans rfl; have hcy1 : w6.cell? ⟨gb2, 1, none⟩ = some (.int .i64 0) := (blk_cell BKgb2.out 1).trans rfl; have hcy2 : w6.cell? ⟨gb2, 2, none⟩ = some (.int .i64 0) := (blk_cell BKgb2.out 2).trans rfl; have hcy3 : w6.cell? ⟨gb2, 3, none⟩ = some (.int .i64 0) := (blk_cell BKgb2.out 3).trans rfl; have hcy4 : w6.cell? ⟨gb2, 4, none⟩ = some (.int .i64 0) := (blk_cell BKgb2.out 4).trans rfl; have hcy5 : w6.cell? ⟨gb2, 5, none⟩ = some (.int .i64 0) := (blk_cell BKgb2.out 5).trans rfl; have hcy6 : w6.cell? ⟨gb2, 6, none⟩ = some (.int .i64 0) := (blk_cell BKgb2.out 6).trans rfl; have hcy7 : w6.cell? ⟨gb2, 7, none⟩ = some (.int .i64 0) := (blk_cell BKgb2.out 7).trans rfl; have hfy0 := blk_frozen BKgb2.out 0; have hfy1 := blk_frozen BKgb2.out 1; have hfy2 := blk_frozen BKgb2.out 2; have hfy3 := blk_frozen BKgb2.out 3; have hfy4 := blk_frozen BKgb2.out 4; have hfy5 := blk_frozen BKgb2.out 5; have hfy6 := blk_frozen BKgb2.out 6; have hfy7 := blk_frozen BKgb2.out 7))
 have HB1 := Aside0.mk (show Below w.heap.size w _ from bA (W := ((((((((w6.setCell ⟨gb2, 0, none⟩ (.int .i64 a0)).setCell ⟨gb2, 1, none⟩ (.int .i64 a1)).setCell ⟨gb2, 2, none⟩ (.int .i64 a2)).setCell ⟨gb2, 3, none⟩ (.int .i64 a3)).setCell ⟨gb2, 4, none⟩ (.int .i64 a4)).setCell ⟨gb2, 5, none⟩ (.int .i64 a5)).setCell ⟨gb2, 6, none⟩ (.int .i64 a6)).setCell ⟨gb2, 7, none⟩ (.int .i64 a7)))); clear HB
 have HB := HB1
 clear HB1
 generalize ((((((((w6.setCell ⟨gb2, 0, none⟩ (.int .i64 a0)).setCell ⟨gb2, 1, none⟩ (.int .i64 a1)).setCell ⟨gb2, 2, none⟩ (.int .i64 a2)).setCell ⟨gb2, 3, none⟩ (.int .i64 a3)).setCell ⟨gb2, 4, none⟩ (.int .i64 a4)).setCell ⟨gb2, 5, none⟩ (.int .i64 a5)).setCell ⟨gb2, 6, none⟩ (.int .i64 a6)).setCell ⟨gb2, 7, none⟩ (.int .i64 a7)) = w7 at HB ⊢
 refine wp_loop_rounds 5 ?_
 rw [rounds_succ]
 go_wp2_with fail
 refine (config_asked_ranges.calls k a0 a1 a2 a3 a4 a5 a6 a7 0 _ A0.out).mono ?_
 rintro e w20 ⟨rfl, hb⟩
 have n0_ := Aside0.mk (below_step bA hb); clear HB; have HB := n0_; clear n0_ hb
 go_wp2_with fail
 rw [rounds_succ]
 go_wp2_with fail
 refine (config_asked_usage.calls a0 a1 a2 a3 a4 a5 a6 a7 0 _ A1.out).mono ?_
 rintro e w21 ⟨rfl, hb⟩
 have n0_ := Aside0.mk (below_step bA hb); clear HB; have HB := n0_; clear n0_ hb
 go_wp2_with fail
 rw [rounds_succ]
 go_wp2_with fail
 refine (config_asked_scale.calls a0 a1 a2 a3 a4 a5 a6 a7 0 _ A2.out).mono ?_
 rintro e w22 ⟨rfl, hb⟩
 have n0_ := Aside0.mk (below_step bA hb); clear HB; have HB := n0_; clear n0_ hb
 go_wp2_with fail
 rw [rounds_succ]
 go_wp2_with fail
 refine (config_asked_off.calls a0 a1 a2 a3 a4 a5 a6 a7 r _ A3.out).mono ?_
 rintro e w23 ⟨rfl, hb⟩
 have n0_ := Aside0.mk (below_step bA hb); clear HB; have HB := n0_; clear n0_ hb
 go_wp2_with fail
 go_ret
 exact ⟨by first | rfl | (simp [errW_none, errW_some] <;> rfl) | (simp [*, errW_none, errW_some] <;> rfl), bA⟩
set_option maxHeartbeats 8000000 in
set_option maxRecDepth 100000 in
theorem config_Check.walk4 (k : Nat) (a0 a1 a2 a3 a4 a5 a6 a7 : Int) (w : World) (A0 : Aside0 (config_asked_ranges.f k a0 a1 a2 a3 a4 a5 a6 a7 = some 0)) (A1 : Aside0 (config_asked_usage.f a0 a1 a2 a3 a4 a5 a6 a7 = some 0)) (A2 : Aside0 (config_asked_scale.f a0 a1 a2 a3 a4 a5 a6 a7 = some 0)) (A3 : Aside0 (config_asked_off.f a0 a1 a2 a3 a4 a5 a6 a7 = some 0)) :
  Calls Tryd.prog 19 #[.agg #[.int .i64 a0, .int .i64 a1, .int .i64 a2, .int .i64 a3, .int .i64 a4, .int .i64 a5, .int .i64 a6, .int .i64 a7]] w fun e w' => e = .returned (.int .i64 0) ∧ Below w.heap.size w w' := by
 have hu39 := Tryd.underlying23
 have hu78 := Tryd.underlying77
 have hmf : ∀ (fn : Fn) (first cap : Array Value) (w : World), (Instr.makeFunc fn first cap).run Tryd.prog w = .ok (.func fn first cap) w := fun _ _ _ _ => rfl
 have hix0 : ∀ (x0 x1 x2 x3 : Value) (w : World), (Instr.index 79 (.agg #[x0, x1, x2, x3]) (.int .i64 0)).run Tryd.prog w = .ok x0 w := by intros; kernel_rfl
 have hix1 : ∀ (x0 x1 x2 x3 : Value) (w : World), (Instr.index 79 (.agg #[x0, x1, x2, x3]) (.int .i64 1)).run Tryd.prog w = .ok x1 w := by intros; kernel_rfl
 have hix2 : ∀ (x0 x1 x2 x3 : Value) (w : World), (Instr.index 79 (.agg #[x0, x1, x2, x3]) (.int .i64 2)).run Tryd.prog w = .ok x2 w := by intros; kernel_rfl
 have hix3 : ∀ (x0 x1 x2 x3 : Value) (w : World), (Instr.index 79 (.agg #[x0, x1, x2, x3]) (.int .i64 3)).run Tryd.prog w = .ok x3 w := by intros; kernel_rfl
 have HB := Aside0.mk (Below.refl w.heap.size w)
 go_enter Tryd.func19, Tryd.ntmps19
 go_wp2_with (first | ((with_reducible refine gate_dst (N := 1) rfl ?_); refine bxA 1 #[.int .i64 a0, .int .i64 a1, .int .i64 a2, .int .i64 a3, .int .i64 a4, .int .i64 a5, .int .i64 a6, .int .i64 a7] 23 ?_; intro gb1 hg w5 hbox hb; have n0_ := Aside0.mk (below_step bA hb); have n1_ := Aside0.mk (hbox); have n2_ := Aside0.mk (gwA hg bA); clear HB; have HB := n0_; have BKgb1 := n1_; have GE1 := n2_; clear n0_ n1_ n2_ hb hbox hg; have hcz1_0 : w5.cell? ⟨gb1, 0, none⟩ = some (.int .i64 a0) := (blk_cell BKgb1.out 0).trans rfl; have hcz1_1 : w5.cell? ⟨gb1, 1, none⟩ = some (.int .i64 a1) := (blk_cell BKgb1.out 1).trans rfl; have hcz1_2 : w5.cell? ⟨gb1, 2, none⟩ = some (.int .i64 a2) := (blk_cell BKgb1.out 2).trans rfl; have hcz1_3 : w5.cell? ⟨gb1, 3, none⟩ = some (.int .i64 a3) := (blk_cell BKgb1.out 3).trans rfl; have hcz1_4 : w5.cell? ⟨gb1, 4, none⟩ = some (.int .i64 a4) := (blk_cell BKgb1.out 4).trans rfl; have hcz1_5 : w5.cell? ⟨gb1, 5, none⟩ = some (.int .i64 a5) := (blk_cell BKgb1.out 5).trans rfl; have hcz1_6 : w5.cell? ⟨gb1, 6, none⟩ = some (.int .i64 a6) := (blk_cell BKgb1.out 6).trans rfl; have hcz1_7 : w5.cell? ⟨gb1, 7, none⟩ = some (.int .i64 a7) := (blk_cell BKgb1.out 7).trans rfl; have hfz1_0 := blk_frozen BKgb1.out 0; have hfz1_1 := blk_frozen BKgb1.out 1; have hfz1_2 := blk_frozen BKgb1.out 2; have hfz1_3 := blk_frozen BKgb1.out 3; have hfz1_4 := blk_frozen BKgb1.out 4; have hfz1_5 := blk_frozen BKgb1.out 5; have hfz1_6 := blk_frozen BKgb1.out 6; have hfz1_7 := blk_frozen BKgb1.out 7) | ((with_reducible refine gate_dst (N := 3) rfl ?_); refine bxA 3 #[.int .i64 0, .int .i64 0, .int .i64 0, .int .i64 0, .int .i64 0, .int .i64 0, .int .i64 0, .int .i64 0] 77 ?_; intro gb2 hg w6 hbox hb; have n0_ := Aside0.mk (below_step bA hb); have n1_ := Aside0.mk (hbox); have n2_ := Aside0.mk (gwA hg bA); clear HB; have HB := n0_; have BKgb2 := n1_; have GE2 := n2_; clear n0_ n1_ n2_ hb hbox hg; have hcy0 : w6.cell? ⟨gb2, 0, none⟩ = some (.int .i64 0) := (blk_cell BKgb2.out 0).trans rfl; have hcy1 : w6.cell? ⟨gb2, 1, none⟩ = some (.int .i64 0) := (blk_cell BKgb2.out 1).trans rfl; have hcy2 : w6.cell? ⟨gb2, 2, none⟩ = some (.int .i64 0) := (blk_cell BKgb2.out 2).trans rfl; have hcy3 : w6.cell? ⟨gb2, 3, none⟩ = some (.int .i64 0) := (blk_cell BKgb2.out 3).trans rfl; have hcy4 : w6.cell? ⟨gb2, 4, none⟩ = some (.int .i64 0) := (blk_cell BKgb2.out 4).trans rfl; have hcy5 : w6.cell? ⟨gb2, 5, none⟩ = some (.int .i64 0) := (blk_cell BKgb2.out 5).trans rfl; have hcy6 : w6.cell? ⟨gb2, 6, none⟩ = some (.int .i64 0) := (blk_cell BKgb2.out 6).trans rfl; have hcy7 : w6.cell? ⟨gb2, 7, none⟩ = some (.int .i64 0) := (blk_cell BKgb2.out 7).trans rfl; have hfy0 := blk_frozen BKgb2.out 0; have hfy1 := blk_frozen BKgb2.out 1; have hfy2 := blk_frozen BKgb2.out 2; have hfy3 := blk_frozen BKgb2.out 3; have hfy4 := blk_frozen BKgb2.out 4; have hfy5 := blk_frozen BKgb2.out 5; have hfy6 := blk_frozen BKgb2.out 6; have hfy7 := blk_frozen BKgb2.out 7))
 have HB1 := Aside0.mk (show Below w.heap.size w _ from bA (W := ((((((((w6.setCell ⟨gb2, 0, none⟩ (.int .i64 a0)).setCell ⟨gb2, 1, none⟩ (.int .i64 a1)).setCell ⟨gb2, 2, none⟩ (.int .i64 a2)).setCell ⟨gb2, 3, none⟩ (.int .i64 a3)).setCell ⟨gb2, 4, none⟩ (.int .i64 a4)).setCell ⟨gb2, 5, none⟩ (.int .i64 a5)).setCell ⟨gb2, 6, none⟩ (.int .i64 a6)).setCell ⟨gb2, 7, none⟩ (.int .i64 a7)))); clear HB
 have HB := HB1
 clear HB1
 generalize ((((((((w6.setCell ⟨gb2, 0, none⟩ (.int .i64 a0)).setCell ⟨gb2, 1, none⟩ (.int .i64 a1)).setCell ⟨gb2, 2, none⟩ (.int .i64 a2)).setCell ⟨gb2, 3, none⟩ (.int .i64 a3)).setCell ⟨gb2, 4, none⟩ (.int .i64 a4)).setCell ⟨gb2, 5, none⟩ (.int .i64 a5)).setCell ⟨gb2, 6, none⟩ (.int .i64 a6)).setCell ⟨gb2, 7, none⟩ (.int .i64 a7)) = w7 at HB ⊢
 refine wp_loop_rounds 5 ?_
 rw [rounds_succ]
 go_wp2_with fail
 refine (config_asked_ranges.calls k a0 a1 a2 a3 a4 a5 a6 a7 0 _ A0.out).mono ?_
 rintro e w20 ⟨rfl, hb⟩
 have n0_ := Aside0.mk (below_step bA hb); clear HB; have HB := n0_; clear n0_ hb
 go_wp2_with fail
 rw [rounds_succ]
 go_wp2_with fail
 refine (config_asked_usage.calls a0 a1 a2 a3 a4 a5 a6 a7 0 _ A1.out).mono ?_
 rintro e w21 ⟨rfl, hb⟩
 have n0_ := Aside0.mk (below_step bA hb); clear HB; have HB := n0_; clear n0_ hb
 go_wp2_with fail
 rw [rounds_succ]
 go_wp2_with fail
 refine (config_asked_scale.calls a0 a1 a2 a3 a4 a5 a6 a7 0 _ A2.out).mono ?_
 rintro e w22 ⟨rfl, hb⟩
 have n0_ := Aside0.mk (below_step bA hb); clear HB; have HB := n0_; clear n0_ hb
 go_wp2_with fail
 rw [rounds_succ]
 go_wp2_with fail
 refine (config_asked_off.calls a0 a1 a2 a3 a4 a5 a6 a7 0 _ A3.out).mono ?_
 rintro e w23 ⟨rfl, hb⟩
 have n0_ := Aside0.mk (below_step bA hb); clear HB; have HB := n0_; clear n0_ hb
 go_wp2_with fail
 rw [rounds_succ]
 go_wp2
 go_ret
 exact ⟨by first | rfl | (simp [errW_none, errW_some] <;> rfl) | (simp [*, errW_none, errW_some] <;> rfl), bA⟩
theorem config_Check.calls (k : Nat) (a0 a1 a2 a3 a4 a5 a6 a7 r : Int) (w : World) (h : config_Check.f k a0 a1 a2 a3 a4 a5 a6 a7 = some r) :
  Calls Tryd.prog 19 #[.agg #[.int .i64 a0, .int .i64 a1, .int .i64 a2, .int .i64 a3, .int .i64 a4, .int .i64 a5, .int .i64 a6, .int .i64 a7]] w fun e w' => e = .returned (.int .i64 r) ∧ Below w.heap.size w w' := by
 unfold config_Check.f at h
 obtain ⟨e1, h1, h⟩ := Option.bind_eq_some_iff.mp h
 by_cases c1 : e1 = 0
 ·rw [if_pos c1] at h
  subst c1
  obtain ⟨e2, h2, h⟩ := Option.bind_eq_some_iff.mp h
  by_cases c2 : e2 = 0
  ·rw [if_pos c2] at h
   subst c2
   obtain ⟨e3, h3, h⟩ := Option.bind_eq_some_iff.mp h
   by_cases c3 : e3 = 0
   ·rw [if_pos c3] at h
    subst c3
    by_cases c4 : r = 0
    ·subst c4
     exact config_Check.walk4 k a0 a1 a2 a3 a4 a5 a6 a7 w ⟨h1⟩ ⟨h2⟩ ⟨h3⟩ ⟨h⟩
    ·exact config_Check.walk3 k a0 a1 a2 a3 a4 a5 a6 a7 r w ⟨h1⟩ ⟨h2⟩ ⟨h3⟩ ⟨h⟩ (bne_iff_ne.mpr c4)
   ·rw [if_neg c3] at h
    obtain rfl := Option.some.inj h
    exact config_Check.walk2 k a0 a1 a2 a3 a4 a5 a6 a7 _ w ⟨h1⟩ ⟨h2⟩ ⟨h3⟩ (bne_iff_ne.mpr c3)
  ·rw [if_neg c2] at h
   obtain rfl := Option.some.inj h
   exact config_Check.walk1 k a0 a1 a2 a3 a4 a5 a6 a7 _ w ⟨h1⟩ ⟨h2⟩ (bne_iff_ne.mpr c2)
 ·rw [if_neg c1] at h
  obtain rfl := Option.some.inj h
  exact config_Check.walk0 k a0 a1 a2 a3 a4 a5 a6 a7 _ w ⟨h1⟩ (bne_iff_ne.mpr c1)

/-! ### ladder_Half: function 51 -/
def ladder_Half.go : Nat → Int → Int → Option Int
 | 0, _, t => some t
 | d + 1, e, t => if Go.bits .and .u64 e (IntKind.u64.wrap (2 ^ d)) = 0 then ladder_Half.go d e t else (wide_Mul.f t (rd rungsL ((31 - d : Nat) : Int))).bind fun p => ladder_Half.go d e p.1
/-- One half to the power of e / 2^32. -/
def ladder_Half.f (a0 : Int) : Option Int := if a0 / 4294967296 ≥ 63 then some 0 else (if 0 ≤ a0 then (ladder_Half.go 32 a0 9223372036854775808).bind fun t => some (t / 2 ^ (a0 / 4294967296).toNat) else none)
set_option maxHeartbeats 8000000 in
set_option maxRecDepth 100000 in
theorem ladder_Half.calls (a0 : Int) (r : Int) (w : World) (hL : LaidW w) (h : ladder_Half.f a0 = some r) :
  Calls Tryd.prog 51 #[.int .u64 a0] w fun e w' => e = .returned (.int .u64 r) ∧ Below w.heap.size w w' := by
 have hfd : ∀ (x y : Int) (W : World), (Instr.field 87 (.agg #[.int .u64 x, .int .u64 y]) 0).run Tryd.prog W = .ok (.int .u64 x) W := by intros; kernel_rfl
 have HB := Aside0.mk (Below.refl w.heap.size w)
 have H : (if a0 / 4294967296 ≥ 63 then some 0 else (if 0 ≤ a0 then (ladder_Half.go 32 a0 9223372036854775808).bind fun t => some (t / 2 ^ (a0 / 4294967296).toNat) else none)) = some r := h
 clear h
 by_cases c2 : a0 / 4294967296 ≥ 63
 ·rw [if_pos c2] at H
  have c2b0 : decide (63 ≤ (a0 / 4294967296)) = true := decide_eq_true c2
  clear c2
  obtain rfl := Option.some.inj H
  go_enter Tryd.func51, Tryd.ntmps51
  go_wp2
  go_ret
  exact ⟨rfl, bA⟩
 ·rw [if_neg c2] at H
  by_cases c3 : 0 ≤ a0
  ·rw [if_pos c3] at H
   have c2b0 : decide (63 ≤ (a0 / 4294967296)) = false := decide_eq_false c2
   have q0 : 0 ≤ a0 / 4294967296 := by omega
   have q1 : a0 / 4294967296 ≤ 62 := by omega
   clear c2
   obtain ⟨t, A30, H⟩ := Option.bind_eq_some_iff.mp H
   have A3 := Aside0.mk A30; clear A30
   have H' := Aside0.mk (Option.some.inj H)
   clear H
   go_enter Tryd.func51, Tryd.ntmps51
   go_wp2
   go_loopg [4, 10] 32 (fun kq v4 v10 w' => ∃ (x4 : Int) (j : Nat), v4 = .int .u64 x4 ∧ v10 = .int .i64 (j : Int) ∧ Aside0 (j + kq = 32) ∧ j ≤ 32 ∧ Aside0 (ladder_Half.go kq a0 x4 = some t) ∧ Aside0 (Below w.heap.size w w'))
   case atStart => exact ⟨9223372036854775808, 0, rfl, rfl, ⟨rfl⟩, by omega, A3, ⟨bA⟩⟩
   case round =>
    obtain ⟨x4, j, rfl, rfl, HD, hj, HA, HB⟩ := hrel
    cases gk with
    | zero =>
     have HD := HD.out
     have hx : x4 = t := Option.some.inj HA.out
     subst hx
     obtain rfl : j = 32 := by omega
     clear HD
     go_wp2
     go_ret
     exact ⟨by rw [← H'.out]; rfl, bA⟩
    | succ d =>
     have HD1 := HD.out
     have hj31 : j ≤ 31 := by omega
     have hlt : decide ((j : Int) < 32) = true := decide_eq_true (by omega)
     obtain rfl : d = 31 - j := by omega
     have hc : wr.cell? ⟨0, j, none⟩ = some (.int .u64 (rd rungsL (j : Int))) := laid_below hL HB.out j (by omega)
     have H := HA.out
     clear HA HD1 HD
     simp only [ladder_Half.go] at H
     rw [show 31 - (31 - j) = j by omega] at H
     by_cases c5 : Go.bits .and .u64 a0 (IntKind.u64.wrap (2 ^ (31 - j))) = 0
     ·rw [if_pos c5] at H
      have c5b1 : (Go.bits .and .u64 a0 (IntKind.u64.wrap (2 ^ (31 - j))) != 0) = false := bne_eq_false_iff_eq.mpr c5
      clear c5
      have H2 := Aside0.mk H
      clear H
      go_wp2
      go_roundg (31 - j)
      case measure => omega
      case rel => exact ⟨x4, j + 1, rfl, by go_num, ⟨by omega⟩, by omega, H2, ⟨bA⟩⟩
     ·rw [if_neg c5] at H
      have c5b1 : (Go.bits .and .u64 a0 (IntKind.u64.wrap (2 ^ (31 - j))) != 0) = true := bne_iff_ne.mpr c5
      clear c5
      obtain ⟨⟨p1, p2⟩, A130, H⟩ := Option.bind_eq_some_iff.mp H
      have A13 := Aside0.mk A130
      have H2 := Aside0.mk H
      clear A130 H
      go_wp2_with (first | ((with_reducible refine gate_callee (f := 73) rfl ?_); refine goesL_ (some 23) rfl rfl Tryd.func73 (by kernel_rfl) rfl #[.int .u64 x4, .int .u64 (rd rungsL (j : Int))] rfl aA ?_; (with_reducible refine (wide_Mul.calls x4 (rd rungsL (j : Int)) p1 p2 _ A13.out).mono ?_); rintro e w15 ⟨rfl, hb⟩; refine ⟨_, rfl, ?_⟩; have n1_ := Aside0.mk (below_step bA hb); clear HB; have HB := n1_; clear n1_ hb hc))
      go_roundg (31 - j)
      case measure => omega
      case rel => exact ⟨p1, j + 1, rfl, by go_num, ⟨by omega⟩, by omega, H2, ⟨bA⟩⟩
  ·rw [if_neg c3] at H
   cases H

/-! ### decay_Factor: function 30 -/
def decay_Factor.f (a0 : Int) (a1 : Int) : Option (Int × Int) := if a0 < 1 then (some (0, 100)) else (if a0 > 1048576 then (some (0, 100)) else (if a1 < 1 then (some (0, 100)) else (if a1 > 1073741824 then (some (0, 100)) else (if (IntKind.u64.wrap (a1)) = 0 then (none) else ((ladder_Half.f (IntKind.u64.wrap (Int.tdiv (IntKind.u64.wrap ((IntKind.u64.wrap (a0)) * 4294967296)) (IntKind.u64.wrap (a1))))).bind fun t202 => (some (t202, 0)))))))
set_option maxHeartbeats 8000000 in
set_option maxRecDepth 100000 in
theorem decay_Factor.calls (a0 : Int) (a1 : Int) (r1 : Int) (r2 : Int) (w : World) (hL : LaidW w) (h : decay_Factor.f a0 a1 = some (r1, r2)) :
  Calls Tryd.prog 30 #[.int .i64 a0, .int .i64 a1] w fun e w' => e = .returned (.tuple #[.int .u64 r1, .int .i64 r2]) ∧ Below w.heap.size w w' := by
 have HB := Aside0.mk (Below.refl w.heap.size w)
 have H : (if a0 < 1 then (some (0, 100)) else (if a0 > 1048576 then (some (0, 100)) else (if a1 < 1 then (some (0, 100)) else (if a1 > 1073741824 then (some (0, 100)) else (if (IntKind.u64.wrap (a1)) = 0 then (none) else ((ladder_Half.f (IntKind.u64.wrap (Int.tdiv (IntKind.u64.wrap ((IntKind.u64.wrap (a0)) * 4294967296)) (IntKind.u64.wrap (a1))))).bind fun t202 => (some (t202, 0)))))))) = some (r1, r2) := h
 clear h
 by_cases c3 : a0 < 1
 ·rw [if_pos c3] at H
  have c3b0 : decide (a0 < 1) = true := decide_eq_true c3
  clear c3
  simp only [Option.some.injEq, Prod.mk.injEq] at H
  obtain ⟨rfl, rfl⟩ := H
  go_enter Tryd.func30, Tryd.ntmps30
  go_wp2
  go_ret2
  exact ⟨by first | rfl | (simp [errW_none, errW_some] <;> rfl) | (simp [*, errW_none, errW_some] <;> rfl), bA⟩
 ·rw [if_neg c3] at H
  have c3b0 : decide (a0 < 1) = false := decide_eq_false c3
  clear c3
  by_cases c4 : a0 > 1048576
  ·rw [if_pos c4] at H
   have c4b0 : decide (1048576 < a0) = true := decide_eq_true c4
   clear c4
   simp only [Option.some.injEq, Prod.mk.injEq] at H
   obtain ⟨rfl, rfl⟩ := H
   go_enter Tryd.func30, Tryd.ntmps30
   go_wp2
   go_ret2
   exact ⟨by first | rfl | (simp [errW_none, errW_some] <;> rfl) | (simp [*, errW_none, errW_some] <;> rfl), bA⟩
  ·rw [if_neg c4] at H
   have c4b0 : decide (1048576 < a0) = false := decide_eq_false c4
   clear c4
   by_cases c5 : a1 < 1
   ·rw [if_pos c5] at H
    have c5b0 : decide (a1 < 1) = true := decide_eq_true c5
    clear c5
    simp only [Option.some.injEq, Prod.mk.injEq] at H
    obtain ⟨rfl, rfl⟩ := H
    go_enter Tryd.func30, Tryd.ntmps30
    go_wp2
    go_ret2
    exact ⟨by first | rfl | (simp [errW_none, errW_some] <;> rfl) | (simp [*, errW_none, errW_some] <;> rfl), bA⟩
   ·rw [if_neg c5] at H
    have c5b0 : decide (a1 < 1) = false := decide_eq_false c5
    clear c5
    by_cases c6 : a1 > 1073741824
    ·rw [if_pos c6] at H
     have c6b0 : decide (1073741824 < a1) = true := decide_eq_true c6
     clear c6
     simp only [Option.some.injEq, Prod.mk.injEq] at H
     obtain ⟨rfl, rfl⟩ := H
     go_enter Tryd.func30, Tryd.ntmps30
     go_wp2
     go_ret2
     exact ⟨by first | rfl | (simp [errW_none, errW_some] <;> rfl) | (simp [*, errW_none, errW_some] <;> rfl), bA⟩
    ·rw [if_neg c6] at H
     have c6b0 : decide (1073741824 < a1) = false := decide_eq_false c6
     clear c6
     by_cases c7 : (IntKind.u64.wrap (a1)) = 0
     ·rw [if_pos c7] at H
      exact absurd H (by simp)
     ·rw [if_neg c7] at H
      have c7b0 : ((IntKind.u64.wrap (a1)) == 0) = false := beq_eq_false_iff_ne.mpr c7
      have c7b1 : ((IntKind.u64.wrap (a1)) != 0) = true := bne_iff_ne.mpr c7
      replace H := Option.bind_eq_some_iff.mp H; obtain ⟨t202, A80, H⟩ := H; replace H : (some (t202, 0)) = some (r1, r2) := H; have A8 := Aside0.mk A80; clear A80
      simp only [Option.some.injEq, Prod.mk.injEq] at H
      obtain ⟨rfl, rfl⟩ := H
      go_enter Tryd.func30, Tryd.ntmps30
      go_wp2_with (first | ((with_reducible refine gate_callee (f := 51) rfl ?_); refine goesL_ (some 26) rfl rfl Tryd.func51 (by kernel_rfl) rfl #[.int .u64 (IntKind.u64.wrap (Int.tdiv (IntKind.u64.wrap ((IntKind.u64.wrap (a0)) * 4294967296)) (IntKind.u64.wrap (a1))))] rfl aA ?_; (with_reducible refine (ladder_Half.calls (IntKind.u64.wrap (Int.tdiv (IntKind.u64.wrap ((IntKind.u64.wrap (a0)) * 4294967296)) (IntKind.u64.wrap (a1)))) t202 _ ?side1 A8.out).mono ?_); (case side1 => exact laid_below hL bA); rintro e w9 ⟨rfl, hb⟩; refine ⟨_, rfl, ?_⟩; have n0_ := Aside0.mk (below_step bA hb); clear HB; have HB := n0_; clear n0_; (try clear hb)))
      go_ret2
      exact ⟨by first | rfl | (simp [errW_none, errW_some] <;> rfl) | (simp [*, errW_none, errW_some] <;> rfl), bA⟩

-- NOT PRINTED: function 31 (slices_Clone_uint64_uint64)

-- NOT PRINTED: function 9 (ledger_New)

-- NOT PRINTED: function 13 (ledger_Ledger_Clone)

/-! ### wide_Shr: function 94 -/
def wide_Shr.f (a0_0 : Int) (a0_1 : Int) (a1 : Int) : Option (Int × Int) := if a1 ≤ 0 then (some (a0_0, a0_1)) else (if a1 < 64 then (if 0 ≤ a1 then (if 0 ≤ (wrap64 (64 - a1)) then (some (shr .u64 a0_0 a1, Go.bits .or .u64 (shr .u64 a0_1 a1) (shl .u64 a0_0 (wrap64 (64 - a1))))) else (none)) else (none)) else (if a1 < 128 then (if 0 ≤ (wrap64 (a1 - 64)) then (some (0, shr .u64 a0_0 (wrap64 (a1 - 64)))) else (none)) else (some (0, 0))))
def wide_Shr.T4 : Bool × List (List Nat × List Nat) := (true, [([], []), ([0], [0]), ([], []), ([1, 2], [1, 2]), ([], []), ([4], [4]), ([], []), ([5, 6], [5, 6]), ([], []), ([8], [8]), ([], []), ([10], [10]), ([9, 11], [9, 11]), ([7, 12], [7, 12]), ([3, 13], [3, 13]), ([14, 0, 1, 2, 3, 4, 5, 6, 7, 8, 9, 10, 11, 12, 13, 14], [14])])
def wide_Shr.B4 : List Nat := [0, 1, 0, 7, 0, 16, 0, 112, 0, 256, 0, 1024, 3840, 8176, 16383, 32767]
theorem wide_Shr.tab4 : rtab .any (opsOf Tryd.f94 4) = wide_Shr.T4 := by kernel_rfl
theorem wide_Shr.bits4 : waitsOk wide_Shr.T4.2 wide_Shr.B4 = true := by kernel_rfl
set_option maxHeartbeats 8000000 in
set_option maxRecDepth 100000 in
theorem wide_Shr.calls (a0_0 : Int) (a0_1 : Int) (a1 : Int) (r1 : Int) (r2 : Int) (w : World) (h : wide_Shr.f a0_0 a0_1 a1 = some (r1, r2)) :
  Calls Tryd.prog 94 #[.agg #[.int .u64 a0_0, .int .u64 a0_1], .int .i64 a1] w fun e w' => e = .returned (.agg #[.int .u64 r1, .int .u64 r2]) ∧ Below w.heap.size w w' := by
 have hu87 := Tryd.underlying87
 have HB := Aside0.mk (Below.refl w.heap.size w)
 have H : (if a1 ≤ 0 then (some (a0_0, a0_1)) else (if a1 < 64 then (if 0 ≤ a1 then (if 0 ≤ (wrap64 (64 - a1)) then (some (shr .u64 a0_0 a1, Go.bits .or .u64 (shr .u64 a0_1 a1) (shl .u64 a0_0 (wrap64 (64 - a1))))) else (none)) else (none)) else (if a1 < 128 then (if 0 ≤ (wrap64 (a1 - 64)) then (some (0, shr .u64 a0_0 (wrap64 (a1 - 64)))) else (none)) else (some (0, 0))))) = some (r1, r2) := h
 clear h
 by_cases c3 : a1 ≤ 0
 ·rw [if_pos c3] at H
  have c3b0 : decide (a1 ≤ 0) = true := decide_eq_true c3
  clear c3
  simp only [Option.some.injEq, Prod.mk.injEq] at H
  obtain ⟨rfl, rfl⟩ := H
  go_enter Tryd.func94, Tryd.ntmps94
  go_wp2_with (first | ((with_reducible refine gate_dst (N := 2) rfl ?_); refine bxA 2 #[.int .u64 a0_0, .int .u64 a0_1] 87 ?_; intro gb203 hg w4 hbox hb; have n0_ := Aside0.mk (below_step bA hb); have n1_ := Aside0.mk (hbox); have n2_ := Aside0.mk (gwA hg bA); have n3_ := Aside0.mk (gwA hg bA); clear HB; have HB := n0_; have BK203 := n1_; have GW203 := n2_; have GE203 := n3_; clear n0_ n1_ n2_ n3_ hb hbox hg) | ((with_reducible refine gate_dst (N := 4) rfl ?_); refine bxA 4 #[.int .u64 0, .int .u64 0] 87 ?_; intro gb204 hg w5 hbox hb; have n0_ := Aside0.mk (blk_below (g := gb203) kA hb); have n1_ := Aside0.mk (below_step bA hb); have n2_ := Aside0.mk (hbox); have n3_ := Aside0.mk (gwA hg bA); have n4_ := Aside0.mk (gwA hg bA); have n5_ := Aside0.mk (neA (g := gb203) hg kA); have n6_ := Aside0.mk (neB (g := gb203) hg kA); clear BK203 HB; have BK203 := n0_; have HB := n1_; have BK204 := n2_; have GW204 := n3_; have GE204 := n4_; have NB203_204 := n5_; have NB204_203 := n6_; clear n0_ n1_ n2_ n3_ n4_ n5_ n6_ hb hbox hg; have hnb6 := NB203_204.out; have hnc6 := NB204_203.out; have hcz7_0 : w5.cell? ⟨gb203, 0, none⟩ = some (.int .u64 a0_0) := (blk_cell BK203.out 0).trans rfl; have hcz7_1 : w5.cell? ⟨gb203, 1, none⟩ = some (.int .u64 a0_1) := (blk_cell BK203.out 1).trans rfl; have hfz7_0 := blk_frozen BK203.out 0; have hfz7_1 := blk_frozen BK203.out 1; have hcz8_0 : w5.cell? ⟨gb204, 0, none⟩ = some (.int .u64 0) := (blk_cell BK204.out 0).trans rfl; have hcz8_1 : w5.cell? ⟨gb204, 1, none⟩ = some (.int .u64 0) := (blk_cell BK204.out 1).trans rfl; have hfz8_0 := blk_frozen BK204.out 0; have hfz8_1 := blk_frozen BK204.out 1))
  refine bodyPost_ret (results_cell_row rfl _ _ gb204 87 #[.int .u64 a0_0, .int .u64 a0_1] (0, 0) _ rfl (by (with_reducible repeat (first | refine blk_drewN ?_ _ | refine blk_drew ?_ | refine blk_alloc ?_ _)); refine blk_put (cs := #[.int .u64 a0_0, .int .u64 0]) ?_ 1 _ rfl; (with_reducible repeat (first | refine blk_drewN ?_ _ | refine blk_drew ?_ | refine blk_alloc ?_ _)); refine blk_put (cs := #[.int .u64 0, .int .u64 0]) ?_ 0 _ rfl; exact kA) Tryd.underlying87 rfl (by kernel_rfl)) rfl ?_
  exact ⟨by first | rfl | (simp [errW_none, errW_some] <;> rfl) | (simp [*, errW_none, errW_some] <;> rfl), bA⟩
 ·rw [if_neg c3] at H
  have c3b0 : decide (a1 ≤ 0) = false := decide_eq_false c3
  clear c3
  by_cases c9 : a1 < 64
  ·rw [if_pos c9] at H
   have c9b0 : decide (a1 < 64) = true := decide_eq_true c9
   clear c9
   by_cases c10 : 0 ≤ a1
   ·rw [if_pos c10] at H
    have c10b0 := eq_true c10
    have c10b1 : decide (0 ≤ a1) = true := decide_eq_true c10
    clear c10
    obtain ⟨ji11, hji11⟩ : ∃ j_ : Int, (shr .u64 a0_0 a1) = j_ := ⟨_, rfl⟩
    replace H : (if 0 ≤ (wrap64 (64 - a1)) then (some (ji11, Go.bits .or .u64 (shr .u64 a0_1 a1) (shl .u64 a0_0 (wrap64 (64 - a1))))) else (none)) = some (r1, r2) := by first | (rw [hji11] at H; exact H) | (simp only [hji11] at H ⊢; exact H)
    have hji11_ : (a0_0 / 2 ^ min a1.toNat 64) = ji11 := hji11
    have hji11z : a1 ≤ 64 → (a0_0 / 2 ^ a1.toNat) = ji11 := shr_small hji11
    have c12b0 := eq_true (of_decide_eq_true (by first | (with_reducible assumption) | assumption) : 0 ≤ a1)
    obtain ⟨ji13, hji13⟩ : ∃ j_ : Int, (shr .u64 a0_1 a1) = j_ := ⟨_, rfl⟩
    replace H : (if 0 ≤ (wrap64 (64 - a1)) then (some (ji11, Go.bits .or .u64 (ji13) (shl .u64 a0_0 (wrap64 (64 - a1))))) else (none)) = some (r1, r2) := by first | (rw [hji13] at H; exact H) | (simp only [hji13] at H ⊢; exact H)
    have hji13_ : (a0_1 / 2 ^ min a1.toNat 64) = ji13 := hji13
    have hji13z : a1 ≤ 64 → (a0_1 / 2 ^ a1.toNat) = ji13 := shr_small hji13
    obtain ⟨ji14, hji14⟩ : ∃ j_ : Int, (wrap64 (64 - a1)) = j_ := ⟨_, rfl⟩
    replace H : (if 0 ≤ (ji14) then (some (ji11, Go.bits .or .u64 (ji13) (shl .u64 a0_0 (ji14)))) else (none)) = some (r1, r2) := by first | (rw [hji14] at H; exact H) | (simp only [hji14] at H ⊢; exact H)
    have hji14w : (IntKind.i64.wrap (64 - a1)) = ji14 := (i64_w _).trans hji14
    by_cases c15 : 0 ≤ (ji14)
    ·rw [if_pos c15] at H
     have c15b0 := eq_true c15
     have c15b1 : decide (0 ≤ (ji14)) = true := decide_eq_true c15
     clear c15
     obtain ⟨ji16, hji16⟩ : ∃ j_ : Int, (shl .u64 a0_0 (ji14)) = j_ := ⟨_, rfl⟩
     replace H : (some (ji11, Go.bits .or .u64 (ji13) (ji16))) = some (r1, r2) := by first | (rw [hji16] at H; exact H) | (simp only [hji16] at H ⊢; exact H)
     have hji16_ : (IntKind.u64.wrap (a0_0 * 2 ^ min (ji14).toNat 64)) = ji16 := hji16
     have hji16z : (ji14) ≤ 64 → (IntKind.u64.wrap (a0_0 * 2 ^ (ji14).toNat)) = ji16 := shl_small hji16
     simp only [Option.some.injEq, Prod.mk.injEq] at H
     obtain ⟨rfl, rfl⟩ := H
     go_enter Tryd.func94, Tryd.ntmps94
     try go_wp2_with (first | ((with_reducible refine gate_dst (N := 2) rfl ?_); refine bxA 2 #[.int .u64 a0_0, .int .u64 a0_1] 87 ?_; intro gb203 hg w17 hbox hb; have n0_ := Aside0.mk (below_step bA hb); have n1_ := Aside0.mk (hbox); have n2_ := Aside0.mk (gwA hg bA); have n3_ := Aside0.mk (gwA hg bA); clear HB; have HB := n0_; have BK203 := n1_; have GW203 := n2_; have GE203 := n3_; clear n0_ n1_ n2_ n3_ hb hbox hg) | ((with_reducible refine gate_dst (N := 4) rfl ?_); refine bxA 4 #[.int .u64 0, .int .u64 0] 87 ?_; intro gb204 hg w18 hbox hb; have n0_ := Aside0.mk (blk_below (g := gb203) kA hb); have n1_ := Aside0.mk (below_step bA hb); have n2_ := Aside0.mk (hbox); have n3_ := Aside0.mk (gwA hg bA); have n4_ := Aside0.mk (gwA hg bA); have n5_ := Aside0.mk (neA (g := gb203) hg kA); have n6_ := Aside0.mk (neB (g := gb203) hg kA); clear BK203 HB; have BK203 := n0_; have HB := n1_; have BK204 := n2_; have GW204 := n3_; have GE204 := n4_; have NB203_204 := n5_; have NB204_203 := n6_; clear n0_ n1_ n2_ n3_ n4_ n5_ n6_ hb hbox hg))
     have n0_ := Aside0.mk (blk_drew BK203.out); have n1_ := Aside0.mk (blk_drew BK204.out); have n2_ := Aside0.mk (below_drew1 HB.out); clear BK203 BK204 HB; have BK203 := n0_; have BK204 := n1_; have HB := n2_; clear n0_ n1_ n2_
     refine start_ (n := 16) (S := fun w' => w'.cell? ⟨gb203, 0, none⟩ = some (.int .u64 a0_0) ∧ w'.cell? ⟨gb203, 1, none⟩ = some (.int .u64 a0_1)) (ds := []) #[false, false, false, false, false, false, false, false, false, false, false, false, false, false, false, false] (by kernel_rfl) rfl rfl ⟨(blk_cell BK203.out 0).trans rfl, (blk_cell BK203.out 1).trans rfl⟩ (fun hHeld => ?_); refine with_tabW wide_Shr.tab4 wide_Shr.bits4 (fun HT_ HW_ => ?_)
     generalize w18.drew = w19 at BK203 BK204 HB hHeld ⊢
     refine pure_ (i := 0) (N := some 12) (v := ?_) (a' := ?_) #[true, false, false, false, false, false, false, false, false, false, false, false, false, false, false, false] rfl rfl (any_of HT_.out (by kernel_rfl)) (fun _ _ _ h => h) (Or.inl ⟨by rfl, ?_⟩) ?_ ?_
     rotate_left
     ·intro w'
      go_simp; with_reducible rfl
     rotate_left
     ·simp only [Act.put, List.setIfInBounds_toArray, List.set_cons_zero, List.set_cons_succ, i64_w, i32_w]
      rfl
     refine pure_ (i := 2) (N := some 14) (v := ?_) (a' := ?_) #[true, false, true, false, false, false, false, false, false, false, false, false, false, false, false, false] rfl rfl (any_of HT_.out (by kernel_rfl)) (fun _ _ _ h => h) (Or.inl ⟨by rfl, ?_⟩) ?_ ?_
     rotate_left
     ·intro w'
      go_simp; with_reducible rfl
     rotate_left
     ·simp only [Act.put, List.setIfInBounds_toArray, List.set_cons_zero, List.set_cons_succ, i64_w, i32_w]
      rfl
     refine pure_ (i := 4) (N := some 16) (v := ?_) (a' := ?_) #[true, false, true, false, true, false, false, false, false, false, false, false, false, false, false, false] rfl rfl (any_of HT_.out (by kernel_rfl)) (fun _ _ _ h => h) (Or.inl ⟨by rfl, ?_⟩) ?_ ?_
     rotate_left
     ·intro w'
      go_simp; with_reducible rfl
     rotate_left
     ·simp only [Act.put, List.setIfInBounds_toArray, List.set_cons_zero, List.set_cons_succ, i64_w, i32_w]
      rfl
     refine pure_ (i := 6) (N := some 18) (v := ?_) (a' := ?_) #[true, false, true, false, true, false, true, false, false, false, false, false, false, false, false, false] rfl rfl (any_of HT_.out (by kernel_rfl)) (fun _ _ _ h => h) (Or.inl ⟨by rfl, ?_⟩) ?_ ?_
     rotate_left
     ·intro w'
      go_simp; with_reducible rfl
     rotate_left
     ·simp only [Act.put, List.setIfInBounds_toArray, List.set_cons_zero, List.set_cons_succ, i64_w, i32_w]
      rfl
     refine pure_ (i := 8) (N := some 20) (v := ?_) (a' := ?_) #[true, false, true, false, true, false, true, false, true, false, false, false, false, false, false, false] rfl rfl (any_of HT_.out (by kernel_rfl)) (fun _ _ _ h => h) (Or.inl ⟨by rfl, ?_⟩) ?_ ?_
     rotate_left
     ·intro w'
      go_simp; with_reducible rfl
     rotate_left
     ·simp only [Act.put, List.setIfInBounds_toArray, List.set_cons_zero, List.set_cons_succ, i64_w, i32_w]
      rfl
     refine pure_ (i := 10) (N := some 22) (v := ?_) (a' := ?_) #[true, false, true, false, true, false, true, false, true, false, true, false, false, false, false, false] rfl rfl (any_of HT_.out (by kernel_rfl)) (fun _ _ _ h => h) (Or.inl ⟨by rfl, ?_⟩) ?_ ?_
     rotate_left
     ·intro w'
      go_simp; with_reducible rfl
     rotate_left
     ·simp only [Act.put, List.setIfInBounds_toArray, List.set_cons_zero, List.set_cons_succ, i64_w, i32_w]
      rfl
     refine pure_ (i := 11) (N := some 23) (v := ?_) (a' := ?_) #[true, false, true, false, true, false, true, false, true, false, true, true, false, false, false, false] rfl rfl (any_of HT_.out (by kernel_rfl)) (fun _ _ _ h => h) (Or.inl ⟨by rfl, ?_⟩) ?_ ?_
     rotate_left
     ·intro w'
      go_simp; with_reducible rfl
     rotate_left
     ·simp only [Act.put, List.setIfInBounds_toArray, List.set_cons_zero, List.set_cons_succ, i64_w, i32_w]
      rfl
     refine take_ (i := 1) (N := some 13) (v := ?_) (a' := ?_) #[true, true, true, false, true, false, true, false, true, false, true, true, false, false, false, false] rfl rfl (take_ofW HT_.out HW_.out (by kernel_rfl)) (fun _ _ _ h => h) (Or.inl ⟨by rfl, ?_⟩) hHeld ?_ ?_
     rotate_left
     ·rintro w' ⟨s0, s1⟩
      go_simp; with_reducible rfl
     rotate_left
     ·simp only [Act.put, List.setIfInBounds_toArray, List.set_cons_zero, List.set_cons_succ, i64_w, i32_w]
      rfl
     refine pure_ (i := 3) (N := some 15) (v := ?_) (a' := ?_) #[true, true, true, true, true, false, true, false, true, false, true, true, false, false, false, false] rfl rfl (any_of HT_.out (by kernel_rfl)) (fun _ _ _ h => h) (Or.inl ⟨by rfl, ?_⟩) ?_ ?_
     rotate_left
     ·intro w'
      go_simp; with_reducible rfl
     rotate_left
     ·simp only [Act.put, List.setIfInBounds_toArray, List.set_cons_zero, List.set_cons_succ, i64_w, i32_w]
      rfl
     refine take_ (i := 5) (N := some 17) (v := ?_) (a' := ?_) #[true, true, true, true, true, true, true, false, true, false, true, true, false, false, false, false] rfl rfl (take_ofW HT_.out HW_.out (by kernel_rfl)) (fun _ _ _ h => h) (Or.inl ⟨by rfl, ?_⟩) hHeld ?_ ?_
     rotate_left
     ·rintro w' ⟨s0, s1⟩
      go_simp; with_reducible rfl
     rotate_left
     ·simp only [Act.put, List.setIfInBounds_toArray, List.set_cons_zero, List.set_cons_succ, i64_w, i32_w]
      rfl
     refine pure_ (i := 7) (N := some 19) (v := ?_) (a' := ?_) #[true, true, true, true, true, true, true, true, true, false, true, true, false, false, false, false] rfl rfl (any_of HT_.out (by kernel_rfl)) (fun _ _ _ h => h) (Or.inl ⟨by rfl, ?_⟩) ?_ ?_
     rotate_left
     ·intro w'
      go_simp; with_reducible rfl
     rotate_left
     ·simp only [Act.put, List.setIfInBounds_toArray, List.set_cons_zero, List.set_cons_succ, i64_w, i32_w]
      rfl
     refine take_ (i := 9) (N := some 21) (v := ?_) (a' := ?_) #[true, true, true, true, true, true, true, true, true, true, true, true, false, false, false, false] rfl rfl (take_ofW HT_.out HW_.out (by kernel_rfl)) (fun _ _ _ h => h) (Or.inl ⟨by rfl, ?_⟩) hHeld ?_ ?_
     rotate_left
     ·rintro w' ⟨s0, s1⟩
      go_simp; with_reducible rfl
     rotate_left
     ·simp only [Act.put, List.setIfInBounds_toArray, List.set_cons_zero, List.set_cons_succ, i64_w, i32_w]
      rfl
     refine pure_ (i := 12) (N := some 24) (v := ?_) (a' := ?_) #[true, true, true, true, true, true, true, true, true, true, true, true, true, false, false, false] rfl rfl (any_of HT_.out (by kernel_rfl)) (fun _ _ _ h => h) (Or.inl ⟨by rfl, ?_⟩) ?_ ?_
     rotate_left
     ·intro w'
      go_simp; with_reducible rfl
     rotate_left
     ·simp only [Act.put, List.setIfInBounds_toArray, List.set_cons_zero, List.set_cons_succ, i64_w, i32_w]
      rfl
     refine pure_ (i := 13) (N := some 25) (v := ?_) (a' := ?_) #[true, true, true, true, true, true, true, true, true, true, true, true, true, true, false, false] rfl rfl (any_of HT_.out (by kernel_rfl)) (fun _ _ _ h => h) (Or.inl ⟨by rfl, ?_⟩) ?_ ?_
     rotate_left
     ·intro w'
      go_simp; with_reducible rfl
     rotate_left
     ·simp only [Act.put, List.setIfInBounds_toArray, List.set_cons_zero, List.set_cons_succ, i64_w, i32_w]
      rfl
     refine pure_ (i := 14) (N := some 26) (v := ?_) (a' := ?_) #[true, true, true, true, true, true, true, true, true, true, true, true, true, true, true, false] rfl rfl (any_of HT_.out (by kernel_rfl)) (fun _ _ _ h => h) (Or.inl ⟨by rfl, ?_⟩) ?_ ?_
     rotate_left
     ·intro w'
      go_simp; with_reducible rfl
     rotate_left
     ·simp only [Act.put, List.setIfInBounds_toArray, List.set_cons_zero, List.set_cons_succ, i64_w, i32_w]
      rfl
     refine one_ (i := 15) (N := none) #[true, true, true, true, true, true, true, true, true, true, true, true, true, true, true, true] rfl rfl (one_of HT_.out (by kernel_rfl)) (by decide) (fun K hK => ?_)
     have hs20 : w19.cell? ⟨gb204, 0, none⟩ = some (.int .u64 0) := (blk_cell BK204.out 0).trans rfl
     have hfs20 := blk_frozen BK204.out 0
     have hns20_0 := NB203_204.out
     have hms20_0 := NB204_203.out
     have hs21 : w19.cell? ⟨gb204, 1, none⟩ = some (.int .u64 0) := (blk_cell BK204.out 1).trans rfl
     have hfs21 := blk_frozen BK204.out 1
     have hns21_0 := NB203_204.out
     have hms21_0 := NB204_203.out
     refine skip_ (w1 := ?_) (by rfl) rfl ?_ ?_
     rotate_left
     ·go_simp
      rfl
     refine hK.out _ _ ⟨((cell_far (p := ⟨gb204, _, none⟩) NB203_204.out _).trans (((cell_far (p := ⟨gb204, _, none⟩) NB203_204.out _).trans (hHeld.1)))), ((cell_far (p := ⟨gb204, _, none⟩) NB203_204.out _).trans (((cell_far (p := ⟨gb204, _, none⟩) NB203_204.out _).trans (hHeld.2))))⟩ (fun hHeld => ?_)
     clear hK K
     refine done_ (done_of HT_.out (by kernel_rfl)) ?_
     try go_wp2
     refine bodyPost_ret (results_cell_row rfl _ _ gb204 87 #[.int .u64 ji11, .int .u64 (Go.bits .or .u64 (ji13) (ji16))] (0, 0) _ rfl (by (with_reducible repeat (first | refine blk_drewN ?_ _ | refine blk_drew ?_ | refine blk_alloc ?_ _)); refine blk_put (cs := #[.int .u64 ji11, .int .u64 0]) ?_ 1 _ rfl; (with_reducible repeat (first | refine blk_drewN ?_ _ | refine blk_drew ?_ | refine blk_alloc ?_ _)); refine blk_put (cs := #[.int .u64 0, .int .u64 0]) ?_ 0 _ rfl; exact kA) Tryd.underlying87 rfl (by kernel_rfl)) rfl ?_
     exact ⟨by first | rfl | (simp [errW_none, errW_some] <;> rfl) | (simp only [← hji11, ← hji13, ← hji14, ← hji16]; first | rfl | (simp [errW_none, errW_some] <;> rfl)) | (simp [*, errW_none, errW_some] <;> rfl), bA⟩
    ·rw [if_neg c15] at H
     exact absurd H (by simp)
   ·rw [if_neg c10] at H
    exact absurd H (by simp)
  ·rw [if_neg c9] at H
   have c9b0 : decide (a1 < 64) = false := decide_eq_false c9
   clear c9
   by_cases c22 : a1 < 128
   ·rw [if_pos c22] at H
    have c22b0 : decide (a1 < 128) = true := decide_eq_true c22
    clear c22
    obtain ⟨ji23, hji23⟩ : ∃ j_ : Int, (wrap64 (a1 - 64)) = j_ := ⟨_, rfl⟩
    replace H : (if 0 ≤ (ji23) then (some (0, shr .u64 a0_0 (ji23))) else (none)) = some (r1, r2) := by first | (rw [hji23] at H; exact H) | (simp only [hji23] at H ⊢; exact H)
    have hji23w : (IntKind.i64.wrap (a1 - 64)) = ji23 := (i64_w _).trans hji23
    by_cases c24 : 0 ≤ (ji23)
    ·rw [if_pos c24] at H
     have c24b0 := eq_true c24
     have c24b1 : decide (0 ≤ (ji23)) = true := decide_eq_true c24
     clear c24
     obtain ⟨ji25, hji25⟩ : ∃ j_ : Int, (shr .u64 a0_0 (ji23)) = j_ := ⟨_, rfl⟩
     replace H : (some (0, ji25)) = some (r1, r2) := by first | (rw [hji25] at H; exact H) | (simp only [hji25] at H ⊢; exact H)
     have hji25_ : (a0_0 / 2 ^ min (ji23).toNat 64) = ji25 := hji25
     have hji25z : (ji23) ≤ 64 → (a0_0 / 2 ^ (ji23).toNat) = ji25 := shr_small hji25
     simp only [Option.some.injEq, Prod.mk.injEq] at H
     obtain ⟨rfl, rfl⟩ := H
     go_enter Tryd.func94, Tryd.ntmps94
     go_wp2_with (first | ((with_reducible refine gate_dst (N := 2) rfl ?_); refine bxA 2 #[.int .u64 a0_0, .int .u64 a0_1] 87 ?_; intro gb203 hg w26 hbox hb; have n0_ := Aside0.mk (below_step bA hb); have n1_ := Aside0.mk (hbox); have n2_ := Aside0.mk (gwA hg bA); have n3_ := Aside0.mk (gwA hg bA); clear HB; have HB := n0_; have BK203 := n1_; have GW203 := n2_; have GE203 := n3_; clear n0_ n1_ n2_ n3_ hb hbox hg) | ((with_reducible refine gate_dst (N := 4) rfl ?_); refine bxA 4 #[.int .u64 0, .int .u64 0] 87 ?_; intro gb204 hg w27 hbox hb; have n0_ := Aside0.mk (blk_below (g := gb203) kA hb); have n1_ := Aside0.mk (below_step bA hb); have n2_ := Aside0.mk (hbox); have n3_ := Aside0.mk (gwA hg bA); have n4_ := Aside0.mk (gwA hg bA); have n5_ := Aside0.mk (neA (g := gb203) hg kA); have n6_ := Aside0.mk (neB (g := gb203) hg kA); clear BK203 HB; have BK203 := n0_; have HB := n1_; have BK204 := n2_; have GW204 := n3_; have GE204 := n4_; have NB203_204 := n5_; have NB204_203 := n6_; clear n0_ n1_ n2_ n3_ n4_ n5_ n6_ hb hbox hg; have hnb28 := NB203_204.out; have hnc28 := NB204_203.out; have hcz29_0 : w27.cell? ⟨gb203, 0, none⟩ = some (.int .u64 a0_0) := (blk_cell BK203.out 0).trans rfl; have hcz29_1 : w27.cell? ⟨gb203, 1, none⟩ = some (.int .u64 a0_1) := (blk_cell BK203.out 1).trans rfl; have hfz29_0 := blk_frozen BK203.out 0; have hfz29_1 := blk_frozen BK203.out 1; have hcz30_0 : w27.cell? ⟨gb204, 0, none⟩ = some (.int .u64 0) := (blk_cell BK204.out 0).trans rfl; have hcz30_1 : w27.cell? ⟨gb204, 1, none⟩ = some (.int .u64 0) := (blk_cell BK204.out 1).trans rfl; have hfz30_0 := blk_frozen BK204.out 0; have hfz30_1 := blk_frozen BK204.out 1))
     refine bodyPost_ret (results_cell_row rfl _ _ gb204 87 #[.int .u64 0, .int .u64 ji25] (0, 0) _ rfl (by (with_reducible repeat (first | refine blk_drewN ?_ _ | refine blk_drew ?_ | refine blk_alloc ?_ _)); refine blk_put (cs := #[.int .u64 0, .int .u64 0]) ?_ 1 _ rfl; (with_reducible repeat (first | refine blk_drewN ?_ _ | refine blk_drew ?_ | refine blk_alloc ?_ _)); refine blk_put (cs := #[.int .u64 0, .int .u64 0]) ?_ 0 _ rfl; exact kA) Tryd.underlying87 rfl (by kernel_rfl)) rfl ?_
     exact ⟨by first | rfl | (simp [errW_none, errW_some] <;> rfl) | (simp only [← hji23, ← hji25]; first | rfl | (simp [errW_none, errW_some] <;> rfl)) | (simp [*, errW_none, errW_some] <;> rfl), bA⟩
    ·rw [if_neg c24] at H
     exact absurd H (by simp)
   ·rw [if_neg c22] at H
    have c22b0 : decide (a1 < 128) = false := decide_eq_false c22
    clear c22
    simp only [Option.some.injEq, Prod.mk.injEq] at H
    obtain ⟨rfl, rfl⟩ := H
    go_enter Tryd.func94, Tryd.ntmps94
    go_wp2_with (first | ((with_reducible refine gate_dst (N := 2) rfl ?_); refine bxA 2 #[.int .u64 a0_0, .int .u64 a0_1] 87 ?_; intro gb203 hg w31 hbox hb; have n0_ := Aside0.mk (below_step bA hb); have n1_ := Aside0.mk (hbox); have n2_ := Aside0.mk (gwA hg bA); have n3_ := Aside0.mk (gwA hg bA); clear HB; have HB := n0_; have BK203 := n1_; have GW203 := n2_; have GE203 := n3_; clear n0_ n1_ n2_ n3_ hb hbox hg) | ((with_reducible refine gate_dst (N := 4) rfl ?_); refine bxA 4 #[.int .u64 0, .int .u64 0] 87 ?_; intro gb204 hg w32 hbox hb; have n0_ := Aside0.mk (blk_below (g := gb203) kA hb); have n1_ := Aside0.mk (below_step bA hb); have n2_ := Aside0.mk (hbox); have n3_ := Aside0.mk (gwA hg bA); have n4_ := Aside0.mk (gwA hg bA); have n5_ := Aside0.mk (neA (g := gb203) hg kA); have n6_ := Aside0.mk (neB (g := gb203) hg kA); clear BK203 HB; have BK203 := n0_; have HB := n1_; have BK204 := n2_; have GW204 := n3_; have GE204 := n4_; have NB203_204 := n5_; have NB204_203 := n6_; clear n0_ n1_ n2_ n3_ n4_ n5_ n6_ hb hbox hg; have hnb33 := NB204_203.out; have hnc33 := NB203_204.out; have hcz34_0 : w32.cell? ⟨gb204, 0, none⟩ = some (.int .u64 0) := (blk_cell BK204.out 0).trans rfl; have hcz34_1 : w32.cell? ⟨gb204, 1, none⟩ = some (.int .u64 0) := (blk_cell BK204.out 1).trans rfl; have hfz34_0 := blk_frozen BK204.out 0; have hfz34_1 := blk_frozen BK204.out 1))
    refine bodyPost_ret (results_cell_row rfl _ _ gb204 87 #[.int .u64 0, .int .u64 0] (0, 0) _ rfl (by (with_reducible repeat (first | refine blk_drewN ?_ _ | refine blk_drew ?_ | refine blk_alloc ?_ _)); refine blk_put (cs := #[.int .u64 0, .int .u64 0]) ?_ 1 _ rfl; (with_reducible repeat (first | refine blk_drewN ?_ _ | refine blk_drew ?_ | refine blk_alloc ?_ _)); refine blk_put (cs := #[.int .u64 0, .int .u64 0]) ?_ 0 _ rfl; exact kA) Tryd.underlying87 rfl (by kernel_rfl)) rfl ?_
    exact ⟨by first | rfl | (simp [errW_none, errW_some] <;> rfl) | (simp [*, errW_none, errW_some] <;> rfl), bA⟩

/-! ### fixq_Part: function 70 -/
def fixq_Part.f (a0 : Int) (a1 : Int) : Option (Int) := (wide_Mul.f a0 (mn a1 9223372036854775808)).bind fun bt205 => ((wide_Shr.f bt205.1 bt205.2 63).bind fun bt207 => (some bt207.2))
set_option maxHeartbeats 8000000 in
set_option maxRecDepth 100000 in
theorem fixq_Part.calls (a0 : Int) (a1 : Int) (r : Int) (w : World) (h : fixq_Part.f a0 a1 = some r) :
  Calls Tryd.prog 70 #[.int .u64 a0, .int .u64 a1] w fun e w' => e = .returned (.int .u64 r) ∧ Below w.heap.size w w' := by
 have hfd87_1 : ∀ (x0 : Int) (x1 : Int) (W_ : World), (Instr.field 87 (.agg #[(.int .u64 x0), (.int .u64 x1)]) 1).run Tryd.prog W_ = .ok ((.int .u64 x1)) W_ := by intros; kernel_rfl
 have HB := Aside0.mk (Below.refl w.heap.size w)
 have H : ((wide_Mul.f a0 (mn a1 9223372036854775808)).bind fun bt205 => ((wide_Shr.f bt205.1 bt205.2 63).bind fun bt207 => (some bt207.2))) = some r := h
 clear h
 obtain ⟨ji3, hji3⟩ : ∃ j_ : Int, (mn a1 9223372036854775808) = j_ := ⟨_, rfl⟩
 replace H : ((wide_Mul.f a0 (ji3)).bind fun bt205 => ((wide_Shr.f bt205.1 bt205.2 63).bind fun bt207 => (some bt207.2))) = some r := by first | (rw [hji3] at H; exact H) | (simp only [hji3] at H ⊢; exact H)
 (try (have hji3h : ji3 ≤ 9223372036854775808 := by (rw [← hji3]; unfold mn; (repeat' split) <;> omega)))
 (try (have hji3g : ji3 ≤ 64 := by omega))
 have hji3_ : (if 9223372036854775808 < a1 then 9223372036854775808 else a1) = ji3 := hji3
 replace H := Option.bind_eq_some_iff.mp H; obtain ⟨⟨t205, t206⟩, A40, H⟩ := H; replace H : ((wide_Shr.f t205 t206 63).bind fun bt207 => (some bt207.2)) = some r := H; have A4 := Aside0.mk A40; clear A40; replace H := Option.bind_eq_some_iff.mp H; obtain ⟨⟨t207, t208⟩, A50, H⟩ := H; replace H : (some t208) = some r := H; have A5 := Aside0.mk A50; clear A50
 obtain rfl := Option.some.inj H
 go_enter Tryd.func70, Tryd.ntmps70
 go_wp2_with (first | ((with_reducible refine gate_callee (f := 73) rfl ?_); refine goesL_ (some 8) rfl rfl Tryd.func73 (by kernel_rfl) rfl #[.int .u64 a0, .int .u64 ji3] rfl (by (try simp only [List.map_toArray, List.map_cons, List.map_nil]); first | done | (simp only [hji3]; rfl) | rfl | (simp only [List.length_drop, List.length_take]; rfl)) ?_; (with_reducible refine (wide_Mul.calls a0 ji3 t205 t206 _ A4.out).mono ?_); rintro e w6 ⟨rfl, hb⟩; refine ⟨_, rfl, ?_⟩; have n0_ := Aside0.mk (below_step bA hb); clear HB; have HB := n0_; clear n0_; (try clear hb)) | ((with_reducible refine gate_callee (f := 94) rfl ?_); refine goesL_ (some 9) rfl rfl Tryd.func94 (by kernel_rfl) rfl #[.agg #[.int .u64 t205, .int .u64 t206], .int .i64 63] rfl aA ?_; (with_reducible refine (wide_Shr.calls t205 t206 63 t207 t208 _ A5.out).mono ?_); rintro e w7 ⟨rfl, hb⟩; refine ⟨_, rfl, ?_⟩; have n0_ := Aside0.mk (below_step bA hb); clear HB; have HB := n0_; clear n0_; (try clear hb)))
 go_ret
 exact ⟨by first | rfl | (simp [errW_none, errW_some] <;> rfl) | (simp only [← hji3]; first | rfl | (simp [errW_none, errW_some] <;> rfl)) | (simp [*, errW_none, errW_some] <;> rfl), bA⟩

/-! ### decay_Fade: function 44 -/
def decay_Fade.f (a0 : Int) (a1 : Int) : Option (Int) := (fixq_Part.f a0 a1).bind fun t209 => (some t209)
set_option maxHeartbeats 8000000 in
set_option maxRecDepth 100000 in
theorem decay_Fade.calls (a0 : Int) (a1 : Int) (r : Int) (w : World) (h : decay_Fade.f a0 a1 = some r) :
  Calls Tryd.prog 44 #[.int .u64 a0, .int .u64 a1] w fun e w' => e = .returned (.int .u64 r) ∧ Below w.heap.size w w' := by
 have HB := Aside0.mk (Below.refl w.heap.size w)
 have H : ((fixq_Part.f a0 a1).bind fun t209 => (some t209)) = some r := h
 clear h; replace H := Option.bind_eq_some_iff.mp H; obtain ⟨t209, A30, H⟩ := H; replace H : (some t209) = some r := H; have A3 := Aside0.mk A30; clear A30
 obtain rfl := Option.some.inj H
 go_enter Tryd.func44, Tryd.ntmps44
 go_wp2_with (first | ((with_reducible refine gate_callee (f := 70) rfl ?_); refine goesL_ (some 7) rfl rfl Tryd.func70 (by kernel_rfl) rfl #[.int .u64 a0, .int .u64 a1] rfl aA ?_; (with_reducible refine (fixq_Part.calls a0 a1 t209 _ A3.out).mono ?_); rintro e w4 ⟨rfl, hb⟩; refine ⟨_, rfl, ?_⟩; have n0_ := Aside0.mk (below_step bA hb); clear HB; have HB := n0_; clear n0_; (try clear hb)))
 go_ret
 exact ⟨by first | rfl | (simp [errW_none, errW_some] <;> rfl) | (simp [*, errW_none, errW_some] <;> rfl), bA⟩

-- NOT PRINTED: function 21 (ledger_Ledger_Fade)

/-! ### fixq_beyond: function 71 -/
def fixq_beyond.f  : Option (Int × Bool) := some (18446744073709551615, false)
set_option maxHeartbeats 8000000 in
set_option maxRecDepth 100000 in
theorem fixq_beyond.calls  (r1 : Int) (r2 : Bool) (w : World) (h : fixq_beyond.f  = some (r1, r2)) :
  Calls Tryd.prog 71 #[] w fun e w' => e = .returned (.agg #[.int .u64 r1, .bool r2]) ∧ Below w.heap.size w w' := by
 have hu84 := Tryd.underlying84
 have HB := Aside0.mk (Below.refl w.heap.size w)
 have H : (some (18446744073709551615, false)) = some (r1, r2) := h
 clear h
 simp only [Option.some.injEq, Prod.mk.injEq] at H
 obtain ⟨rfl, rfl⟩ := H
 go_enter Tryd.func71, Tryd.ntmps71
 go_wp2_with (first | ((with_reducible refine gate_dst (N := 0) rfl ?_); refine bxA 0 #[.int .u64 0, .bool false] 84 ?_; intro gb212 hg w1 hbox hb; have n0_ := Aside0.mk (below_step bA hb); have n1_ := Aside0.mk (hbox); have n2_ := Aside0.mk (gwA hg bA); have n3_ := Aside0.mk (gwA hg bA); clear HB; have HB := n0_; have BK212 := n1_; have GW212 := n2_; have GE212 := n3_; clear n0_ n1_ n2_ n3_ hb hbox hg; have hcz2_0 : w1.cell? ⟨gb212, 0, none⟩ = some (.int .u64 0) := (blk_cell BK212.out 0).trans rfl; have hcz2_1 : w1.cell? ⟨gb212, 1, none⟩ = some (.bool false) := (blk_cell BK212.out 1).trans rfl; have hfz2_0 := blk_frozen BK212.out 0; have hfz2_1 := blk_frozen BK212.out 1))
 refine bodyPost_ret (results_cell_row rfl _ _ gb212 84 #[.int .u64 18446744073709551615, .bool false] (0, 0) _ rfl (by (with_reducible repeat (first | refine blk_drewN ?_ _ | refine blk_drew ?_ | refine blk_alloc ?_ _)); refine blk_put (cs := #[.int .u64 18446744073709551615, .bool false]) ?_ 1 _ rfl; (with_reducible repeat (first | refine blk_drewN ?_ _ | refine blk_drew ?_ | refine blk_alloc ?_ _)); refine blk_put (cs := #[.int .u64 0, .bool false]) ?_ 0 _ rfl; exact kA) Tryd.underlying84 rfl (by kernel_rfl)) rfl ?_
 exact ⟨by first | rfl | (simp [errW_none, errW_some] <;> rfl) | (simp [*, errW_none, errW_some] <;> rfl), bA⟩

/-! ### fixq_of: function 47 -/
def fixq_of.f (a0_0 : Int) (a0_1 : Int) : Option (Int × Bool) := if a0_0 > 0 then ((fixq_beyond.f).bind fun bt215 => (some (bt215.1, bt215.2))) else (some (a0_1, true))
set_option maxHeartbeats 8000000 in
set_option maxRecDepth 100000 in
theorem fixq_of.calls (a0_0 : Int) (a0_1 : Int) (r1 : Int) (r2 : Bool) (w : World) (h : fixq_of.f a0_0 a0_1 = some (r1, r2)) :
  Calls Tryd.prog 47 #[.agg #[.int .u64 a0_0, .int .u64 a0_1]] w fun e w' => e = .returned (.agg #[.int .u64 r1, .bool r2]) ∧ Below w.heap.size w w' := by
 have hu87 := Tryd.underlying87
 have hu84 := Tryd.underlying84
 have HB := Aside0.mk (Below.refl w.heap.size w)
 have H : (if a0_0 > 0 then ((fixq_beyond.f).bind fun bt215 => (some (bt215.1, bt215.2))) else (some (a0_1, true))) = some (r1, r2) := h
 clear h
 by_cases c2 : a0_0 > 0
 ·rw [if_pos c2] at H
  have c2b0 : decide (0 < a0_0) = true := decide_eq_true c2
  clear c2; replace H := Option.bind_eq_some_iff.mp H; obtain ⟨⟨t215, t216⟩, A30, H⟩ := H; replace H : (some (t215, t216)) = some (r1, r2) := H; have A3 := Aside0.mk A30; clear A30
  simp only [Option.some.injEq, Prod.mk.injEq] at H
  obtain ⟨rfl, rfl⟩ := H
  go_enter Tryd.func47, Tryd.ntmps47
  go_wp2_with (first | ((with_reducible refine gate_dst (N := 1) rfl ?_); refine bxA 1 #[.int .u64 a0_0, .int .u64 a0_1] 87 ?_; intro gb213 hg w4 hbox hb; have n0_ := Aside0.mk (below_step bA hb); have n1_ := Aside0.mk (hbox); have n2_ := Aside0.mk (gwA hg bA); have n3_ := Aside0.mk (gwA hg bA); clear HB; have HB := n0_; have BK213 := n1_; have GW213 := n2_; have GE213 := n3_; clear n0_ n1_ n2_ n3_ hb hbox hg) | ((with_reducible refine gate_dst (N := 2) rfl ?_); refine bxA 2 #[.int .u64 0, .bool false] 84 ?_; intro gb214 hg w5 hbox hb; have n0_ := Aside0.mk (blk_below (g := gb213) kA hb); have n1_ := Aside0.mk (below_step bA hb); have n2_ := Aside0.mk (hbox); have n3_ := Aside0.mk (gwA hg bA); have n4_ := Aside0.mk (gwA hg bA); have n5_ := Aside0.mk (neA (g := gb213) hg kA); have n6_ := Aside0.mk (neB (g := gb213) hg kA); clear BK213 HB; have BK213 := n0_; have HB := n1_; have BK214 := n2_; have GW214 := n3_; have GE214 := n4_; have NB213_214 := n5_; have NB214_213 := n6_; clear n0_ n1_ n2_ n3_ n4_ n5_ n6_ hb hbox hg; have hnb6 := NB213_214.out; have hnc6 := NB214_213.out; have hcz7_0 : w5.cell? ⟨gb213, 0, none⟩ = some (.int .u64 a0_0) := (blk_cell BK213.out 0).trans rfl; have hcz7_1 : w5.cell? ⟨gb213, 1, none⟩ = some (.int .u64 a0_1) := (blk_cell BK213.out 1).trans rfl; have hfz7_0 := blk_frozen BK213.out 0; have hfz7_1 := blk_frozen BK213.out 1) | ((with_reducible refine gate_callee (f := 71) rfl ?_); refine goesL_ (some 6) rfl rfl Tryd.func71 (by kernel_rfl) rfl #[] rfl aA ?_; (with_reducible refine (fixq_beyond.calls  t215 t216 _ A3.out).mono ?_); rintro e w8 ⟨rfl, hb⟩; refine ⟨_, rfl, ?_⟩; have n0_ := Aside0.mk (blk_below (g := gb213) kA hb); have n1_ := Aside0.mk (blk_below (g := gb214) kA hb); have n2_ := Aside0.mk (below_step bA hb); clear BK213 BK214 HB; have BK213 := n0_; have BK214 := n1_; have HB := n2_; clear n0_ n1_ n2_; (try clear hb); have hcz9_0 : w8.cell? ⟨gb214, 0, none⟩ = some (.int .u64 0) := (blk_cell BK214.out 0).trans rfl; have hcz9_1 : w8.cell? ⟨gb214, 1, none⟩ = some (.bool false) := (blk_cell BK214.out 1).trans rfl; have hfz9_0 := blk_frozen BK214.out 0; have hfz9_1 := blk_frozen BK214.out 1))
  refine bodyPost_ret (results_cell_row rfl _ _ gb214 84 #[.int .u64 t215, .bool t216] (0, 0) _ rfl (by (with_reducible repeat (first | refine blk_drewN ?_ _ | refine blk_drew ?_ | refine blk_alloc ?_ _)); refine blk_put (cs := #[.int .u64 t215, .bool false]) ?_ 1 _ rfl; (with_reducible repeat (first | refine blk_drewN ?_ _ | refine blk_drew ?_ | refine blk_alloc ?_ _)); refine blk_put (cs := #[.int .u64 0, .bool false]) ?_ 0 _ rfl; exact kA) Tryd.underlying84 rfl (by kernel_rfl)) rfl ?_
  exact ⟨by first | rfl | (simp [errW_none, errW_some] <;> rfl) | (simp [*, errW_none, errW_some] <;> rfl), bA⟩
 ·rw [if_neg c2] at H
  have c2b0 : decide (0 < a0_0) = false := decide_eq_false c2
  clear c2
  simp only [Option.some.injEq, Prod.mk.injEq] at H
  obtain ⟨rfl, rfl⟩ := H
  go_enter Tryd.func47, Tryd.ntmps47
  go_wp2_with (first | ((with_reducible refine gate_dst (N := 1) rfl ?_); refine bxA 1 #[.int .u64 a0_0, .int .u64 a0_1] 87 ?_; intro gb213 hg w10 hbox hb; have n0_ := Aside0.mk (below_step bA hb); have n1_ := Aside0.mk (hbox); have n2_ := Aside0.mk (gwA hg bA); have n3_ := Aside0.mk (gwA hg bA); clear HB; have HB := n0_; have BK213 := n1_; have GW213 := n2_; have GE213 := n3_; clear n0_ n1_ n2_ n3_ hb hbox hg) | ((with_reducible refine gate_dst (N := 2) rfl ?_); refine bxA 2 #[.int .u64 0, .bool false] 84 ?_; intro gb214 hg w11 hbox hb; have n0_ := Aside0.mk (blk_below (g := gb213) kA hb); have n1_ := Aside0.mk (below_step bA hb); have n2_ := Aside0.mk (hbox); have n3_ := Aside0.mk (gwA hg bA); have n4_ := Aside0.mk (gwA hg bA); have n5_ := Aside0.mk (neA (g := gb213) hg kA); have n6_ := Aside0.mk (neB (g := gb213) hg kA); clear BK213 HB; have BK213 := n0_; have HB := n1_; have BK214 := n2_; have GW214 := n3_; have GE214 := n4_; have NB213_214 := n5_; have NB214_213 := n6_; clear n0_ n1_ n2_ n3_ n4_ n5_ n6_ hb hbox hg; have hnb12 := NB213_214.out; have hnc12 := NB214_213.out; have hcz13_0 : w11.cell? ⟨gb213, 0, none⟩ = some (.int .u64 a0_0) := (blk_cell BK213.out 0).trans rfl; have hcz13_1 : w11.cell? ⟨gb213, 1, none⟩ = some (.int .u64 a0_1) := (blk_cell BK213.out 1).trans rfl; have hfz13_0 := blk_frozen BK213.out 0; have hfz13_1 := blk_frozen BK213.out 1; have hcz14_0 : w11.cell? ⟨gb214, 0, none⟩ = some (.int .u64 0) := (blk_cell BK214.out 0).trans rfl; have hcz14_1 : w11.cell? ⟨gb214, 1, none⟩ = some (.bool false) := (blk_cell BK214.out 1).trans rfl; have hfz14_0 := blk_frozen BK214.out 0; have hfz14_1 := blk_frozen BK214.out 1))
  refine bodyPost_ret (results_cell_row rfl _ _ gb214 84 #[.int .u64 a0_1, .bool true] (0, 0) _ rfl (by (with_reducible repeat (first | refine blk_drewN ?_ _ | refine blk_drew ?_ | refine blk_alloc ?_ _)); refine blk_put (cs := #[.int .u64 a0_1, .bool false]) ?_ 1 _ rfl; (with_reducible repeat (first | refine blk_drewN ?_ _ | refine blk_drew ?_ | refine blk_alloc ?_ _)); refine blk_put (cs := #[.int .u64 0, .bool false]) ?_ 0 _ rfl; exact kA) Tryd.underlying84 rfl (by kernel_rfl)) rfl ?_
  exact ⟨by first | rfl | (simp [errW_none, errW_some] <;> rfl) | (simp [*, errW_none, errW_some] <;> rfl), bA⟩

/-! ### fixq_Of: function 24 -/
def fixq_Of.f (a0 : Int) : Option (Int × Bool) := if a0 < 0 then (some (0, false)) else ((wide_Of.f (IntKind.u64.wrap (a0))).bind fun bt217 => ((wide_Shl.f bt217.1 bt217.2 32).bind fun bt219 => ((fixq_of.f bt219.1 bt219.2).bind fun bt221 => (some (bt221.1, bt221.2)))))
set_option maxHeartbeats 8000000 in
set_option maxRecDepth 100000 in
theorem fixq_Of.calls (a0 : Int) (r1 : Int) (r2 : Bool) (w : World) (h : fixq_Of.f a0 = some (r1, r2)) :
  Calls Tryd.prog 24 #[.int .i64 a0] w fun e w' => e = .returned (.tuple #[.int .u64 r1, .bool r2]) ∧ Below w.heap.size w w' := by
 have hu84 := Tryd.underlying84
 have HB := Aside0.mk (Below.refl w.heap.size w)
 have H : (if a0 < 0 then (some (0, false)) else ((wide_Of.f (IntKind.u64.wrap (a0))).bind fun bt217 => ((wide_Shl.f bt217.1 bt217.2 32).bind fun bt219 => ((fixq_of.f bt219.1 bt219.2).bind fun bt221 => (some (bt221.1, bt221.2)))))) = some (r1, r2) := h
 clear h
 by_cases c2 : a0 < 0
 ·rw [if_pos c2] at H
  have c2b0 : decide (a0 < 0) = true := decide_eq_true c2
  clear c2
  simp only [Option.some.injEq, Prod.mk.injEq] at H
  obtain ⟨rfl, rfl⟩ := H
  go_enter Tryd.func24, Tryd.ntmps24
  go_wp2
  repeat (go_quiet (fail); try go_wp2)
  go_ret2
  exact ⟨by first | rfl | (simp [errW_none, errW_some] <;> rfl) | (simp [*, errW_none, errW_some] <;> rfl), bA⟩
 ·rw [if_neg c2] at H
  have c2b0 : decide (a0 < 0) = false := decide_eq_false c2
  clear c2; replace H := Option.bind_eq_some_iff.mp H; obtain ⟨⟨t217, t218⟩, A30, H⟩ := H; replace H : ((wide_Shl.f t217 t218 32).bind fun bt219 => ((fixq_of.f bt219.1 bt219.2).bind fun bt221 => (some (bt221.1, bt221.2)))) = some (r1, r2) := H; have A3 := Aside0.mk A30; clear A30; replace H := Option.bind_eq_some_iff.mp H; obtain ⟨⟨t219, t220⟩, A40, H⟩ := H; replace H : ((fixq_of.f t219 t220).bind fun bt221 => (some (bt221.1, bt221.2))) = some (r1, r2) := H; have A4 := Aside0.mk A40; clear A40; replace H := Option.bind_eq_some_iff.mp H; obtain ⟨⟨t221, t222⟩, A50, H⟩ := H; replace H : (some (t221, t222)) = some (r1, r2) := H; have A5 := Aside0.mk A50; clear A50
  simp only [Option.some.injEq, Prod.mk.injEq] at H
  obtain ⟨rfl, rfl⟩ := H
  go_enter Tryd.func24, Tryd.ntmps24
  go_wp2_with (first | (go_at_call 49; (with_reducible refine (wide_Of.calls (IntKind.u64.wrap (a0)) t217 t218 _ A3.out).mono ?_); rintro e w6 ⟨rfl, hb⟩; have n0_ := Aside0.mk (below_step bA hb); clear HB; have HB := n0_; clear n0_; (try clear hb)) | (go_at_call 48; (with_reducible refine (wide_Shl.calls t217 t218 32 t219 t220 _ A4.out).mono ?_); rintro e w7 ⟨rfl, hb⟩; have n0_ := Aside0.mk (below_step bA hb); clear HB; have HB := n0_; clear n0_; (try clear hb)) | (go_at_call 47; (with_reducible refine (fixq_of.calls t219 t220 t221 t222 _ A5.out).mono ?_); rintro e w8 ⟨rfl, hb⟩; have n0_ := Aside0.mk (below_step bA hb); clear HB; have HB := n0_; clear n0_; (try clear hb)) | ((with_reducible refine gate_dst (N := 4) rfl ?_); refine bxA 4 #[.int .u64 0, .bool false] 84 ?_; intro gb223 hg w9 hbox hb; have n0_ := Aside0.mk (below_step bA hb); have n1_ := Aside0.mk (hbox); have n2_ := Aside0.mk (gwA hg bA); have n3_ := Aside0.mk (gwA hg bA); clear HB; have HB := n0_; have BK223 := n1_; have GW223 := n2_; have GE223 := n3_; clear n0_ n1_ n2_ n3_ hb hbox hg; have hcz10_0 : w9.cell? ⟨gb223, 0, none⟩ = some (.int .u64 0) := (blk_cell BK223.out 0).trans rfl; have hcz10_1 : w9.cell? ⟨gb223, 1, none⟩ = some (.bool false) := (blk_cell BK223.out 1).trans rfl; have hfz10_0 := blk_frozen BK223.out 0; have hfz10_1 := blk_frozen BK223.out 1))
  repeat (go_quiet (first | (go_at_call 49; (with_reducible refine (wide_Of.calls (IntKind.u64.wrap (a0)) t217 t218 _ A3.out).mono ?_); rintro e w6 ⟨rfl, hb⟩; have n0_ := Aside0.mk (below_step bA hb); clear HB; have HB := n0_; clear n0_; (try clear hb)) | (go_at_call 48; (with_reducible refine (wide_Shl.calls t217 t218 32 t219 t220 _ A4.out).mono ?_); rintro e w7 ⟨rfl, hb⟩; have n0_ := Aside0.mk (below_step bA hb); clear HB; have HB := n0_; clear n0_; (try clear hb)) | (go_at_call 47; (with_reducible refine (fixq_of.calls t219 t220 t221 t222 _ A5.out).mono ?_); rintro e w8 ⟨rfl, hb⟩; have n0_ := Aside0.mk (below_step bA hb); clear HB; have HB := n0_; clear n0_; (try clear hb)) | ((with_reducible refine gate_dst (N := 4) rfl ?_); refine bxA 4 #[.int .u64 0, .bool false] 84 ?_; intro gb223 hg w9 hbox hb; have n0_ := Aside0.mk (below_step bA hb); have n1_ := Aside0.mk (hbox); have n2_ := Aside0.mk (gwA hg bA); have n3_ := Aside0.mk (gwA hg bA); clear HB; have HB := n0_; have BK223 := n1_; have GW223 := n2_; have GE223 := n3_; clear n0_ n1_ n2_ n3_ hb hbox hg; have hcz10_0 : w9.cell? ⟨gb223, 0, none⟩ = some (.int .u64 0) := (blk_cell BK223.out 0).trans rfl; have hcz10_1 : w9.cell? ⟨gb223, 1, none⟩ = some (.bool false) := (blk_cell BK223.out 1).trans rfl; have hfz10_0 := blk_frozen BK223.out 0; have hfz10_1 := blk_frozen BK223.out 1)); try go_wp2_with (first | (go_at_call 49; (with_reducible refine (wide_Of.calls (IntKind.u64.wrap (a0)) t217 t218 _ A3.out).mono ?_); rintro e w6 ⟨rfl, hb⟩; have n0_ := Aside0.mk (below_step bA hb); clear HB; have HB := n0_; clear n0_; (try clear hb)) | (go_at_call 48; (with_reducible refine (wide_Shl.calls t217 t218 32 t219 t220 _ A4.out).mono ?_); rintro e w7 ⟨rfl, hb⟩; have n0_ := Aside0.mk (below_step bA hb); clear HB; have HB := n0_; clear n0_; (try clear hb)) | (go_at_call 47; (with_reducible refine (fixq_of.calls t219 t220 t221 t222 _ A5.out).mono ?_); rintro e w8 ⟨rfl, hb⟩; have n0_ := Aside0.mk (below_step bA hb); clear HB; have HB := n0_; clear n0_; (try clear hb)) | ((with_reducible refine gate_dst (N := 4) rfl ?_); refine bxA 4 #[.int .u64 0, .bool false] 84 ?_; intro gb223 hg w9 hbox hb; have n0_ := Aside0.mk (below_step bA hb); have n1_ := Aside0.mk (hbox); have n2_ := Aside0.mk (gwA hg bA); have n3_ := Aside0.mk (gwA hg bA); clear HB; have HB := n0_; have BK223 := n1_; have GW223 := n2_; have GE223 := n3_; clear n0_ n1_ n2_ n3_ hb hbox hg; have hcz10_0 : w9.cell? ⟨gb223, 0, none⟩ = some (.int .u64 0) := (blk_cell BK223.out 0).trans rfl; have hcz10_1 : w9.cell? ⟨gb223, 1, none⟩ = some (.bool false) := (blk_cell BK223.out 1).trans rfl; have hfz10_0 := blk_frozen BK223.out 0; have hfz10_1 := blk_frozen BK223.out 1)))
  go_ret2
  exact ⟨by first | rfl | (simp [errW_none, errW_some] <;> rfl) | (simp [*, errW_none, errW_some] <;> rfl), bA⟩

/-! ### fixq_Add: function 38 -/
def fixq_Add.f (a0 : Int) (a1 : Int) : Option (Int × Bool) := (wide_Of.f a0).bind fun bt224 => ((wide_Of.f a1).bind fun bt226 => ((wide_Add.f bt224.1 bt224.2 bt226.1 bt226.2).bind fun bt228 => ((fixq_of.f bt228.1 bt228.2.1).bind fun bt232 => (some (bt232.1, bt232.2)))))
set_option maxHeartbeats 8000000 in
set_option maxRecDepth 100000 in
theorem fixq_Add.calls (a0 : Int) (a1 : Int) (r1 : Int) (r2 : Bool) (w : World) (h : fixq_Add.f a0 a1 = some (r1, r2)) :
  Calls Tryd.prog 38 #[.int .u64 a0, .int .u64 a1] w fun e w' => e = .returned (.tuple #[.int .u64 r1, .bool r2]) ∧ Below w.heap.size w w' := by
 have hu87 := Tryd.underlying87
 have hu84 := Tryd.underlying84
 have HB := Aside0.mk (Below.refl w.heap.size w)
 have H : ((wide_Of.f a0).bind fun bt224 => ((wide_Of.f a1).bind fun bt226 => ((wide_Add.f bt224.1 bt224.2 bt226.1 bt226.2).bind fun bt228 => ((fixq_of.f bt228.1 bt228.2.1).bind fun bt232 => (some (bt232.1, bt232.2)))))) = some (r1, r2) := h
 clear h; replace H := Option.bind_eq_some_iff.mp H; obtain ⟨⟨t224, t225⟩, A30, H⟩ := H; replace H : ((wide_Of.f a1).bind fun bt226 => ((wide_Add.f t224 t225 bt226.1 bt226.2).bind fun bt228 => ((fixq_of.f bt228.1 bt228.2.1).bind fun bt232 => (some (bt232.1, bt232.2))))) = some (r1, r2) := H; have A3 := Aside0.mk A30; clear A30; replace H := Option.bind_eq_some_iff.mp H; obtain ⟨⟨t226, t227⟩, A40, H⟩ := H; replace H : ((wide_Add.f t224 t225 t226 t227).bind fun bt228 => ((fixq_of.f bt228.1 bt228.2.1).bind fun bt232 => (some (bt232.1, bt232.2)))) = some (r1, r2) := H; have A4 := Aside0.mk A40; clear A40; replace H := Option.bind_eq_some_iff.mp H; obtain ⟨⟨t228, t229, t230⟩, A50, H⟩ := H; replace H : ((fixq_of.f t228 t229).bind fun bt232 => (some (bt232.1, bt232.2))) = some (r1, r2) := H; have A5 := Aside0.mk A50; clear A50; replace H := Option.bind_eq_some_iff.mp H; obtain ⟨⟨t232, t233⟩, A60, H⟩ := H; replace H : (some (t232, t233)) = some (r1, r2) := H; have A6 := Aside0.mk A60; clear A60
 simp only [Option.some.injEq, Prod.mk.injEq] at H
 obtain ⟨rfl, rfl⟩ := H
 go_enter Tryd.func38, Tryd.ntmps38
 go_wp2_with (first | (go_at_call 49; (with_reducible refine (wide_Of.calls a0 t224 t225 _ A3.out).mono ?_); rintro e w7 ⟨rfl, hb⟩; have n0_ := Aside0.mk (below_step bA hb); clear HB; have HB := n0_; clear n0_; (try clear hb)) | (go_at_call 49; (with_reducible refine (wide_Of.calls a1 t226 t227 _ A4.out).mono ?_); rintro e w8 ⟨rfl, hb⟩; have n0_ := Aside0.mk (below_step bA hb); clear HB; have HB := n0_; clear n0_; (try clear hb)) | (go_at_call 62; (with_reducible refine (wide_Add.calls t224 t225 t226 t227 t228 t229 t230 _ A5.out).mono ?_); rintro e w9 ⟨rfl, hb⟩; have n0_ := Aside0.mk (below_step bA hb); clear HB; have HB := n0_; clear n0_; (try clear hb)) | ((with_reducible refine gate_dst (N := 6) rfl ?_); refine bxA 6 #[.int .u64 0, .int .u64 0] 87 ?_; intro gb231 hg w10 hbox hb; have n0_ := Aside0.mk (below_step bA hb); have n1_ := Aside0.mk (hbox); have n2_ := Aside0.mk (gwA hg bA); have n3_ := Aside0.mk (gwA hg bA); clear HB; have HB := n0_; have BK231 := n1_; have GW231 := n2_; have GE231 := n3_; clear n0_ n1_ n2_ n3_ hb hbox hg; have hcz11_0 : w10.cell? ⟨gb231, 0, none⟩ = some (.int .u64 0) := (blk_cell BK231.out 0).trans rfl; have hcz11_1 : w10.cell? ⟨gb231, 1, none⟩ = some (.int .u64 0) := (blk_cell BK231.out 1).trans rfl; have hfz11_0 := blk_frozen BK231.out 0; have hfz11_1 := blk_frozen BK231.out 1) | (go_at_call 47; (with_reducible refine (fixq_of.calls t228 t229 t232 t233 _ A6.out).mono ?_); rintro e w12 ⟨rfl, hb⟩; have n0_ := Aside0.mk (blk_below (g := gb231) (o := .cells #[.int .u64 t228, .int .u64 t229] 87 (0, 0)) (by (with_reducible repeat (first | refine blk_drewN ?_ _ | refine blk_drew ?_ | refine blk_alloc ?_ _)); refine blk_put (cs := #[.int .u64 t228, .int .u64 0]) ?_ 1 _ rfl; (with_reducible repeat (first | refine blk_drewN ?_ _ | refine blk_drew ?_ | refine blk_alloc ?_ _)); refine blk_put (cs := #[.int .u64 0, .int .u64 0]) ?_ 0 _ rfl; exact kA) hb); have n1_ := Aside0.mk (below_step bA hb); clear BK231 HB; have BK231 := n0_; have HB := n1_; clear n0_ n1_; (try clear hb)) | ((with_reducible refine gate_dst (N := 8) rfl ?_); refine bxA 8 #[.int .u64 0, .bool false] 84 ?_; intro gb234 hg w13 hbox hb; have n0_ := Aside0.mk (blk_below (g := gb231) kA hb); have n1_ := Aside0.mk (below_step bA hb); have n2_ := Aside0.mk (hbox); have n3_ := Aside0.mk (gwA hg bA); have n4_ := Aside0.mk (gwA hg bA); have n5_ := Aside0.mk (neA (g := gb231) hg kA); have n6_ := Aside0.mk (neB (g := gb231) hg kA); clear BK231 HB; have BK231 := n0_; have HB := n1_; have BK234 := n2_; have GW234 := n3_; have GE234 := n4_; have NB231_234 := n5_; have NB234_231 := n6_; clear n0_ n1_ n2_ n3_ n4_ n5_ n6_ hb hbox hg; have hnb14 := NB234_231.out; have hnc14 := NB231_234.out; have hcz15_0 : w13.cell? ⟨gb234, 0, none⟩ = some (.int .u64 0) := (blk_cell BK234.out 0).trans rfl; have hcz15_1 : w13.cell? ⟨gb234, 1, none⟩ = some (.bool false) := (blk_cell BK234.out 1).trans rfl; have hfz15_0 := blk_frozen BK234.out 0; have hfz15_1 := blk_frozen BK234.out 1))
 repeat (go_quiet (first | (go_at_call 49; (with_reducible refine (wide_Of.calls a0 t224 t225 _ A3.out).mono ?_); rintro e w7 ⟨rfl, hb⟩; have n0_ := Aside0.mk (below_step bA hb); clear HB; have HB := n0_; clear n0_; (try clear hb)) | (go_at_call 49; (with_reducible refine (wide_Of.calls a1 t226 t227 _ A4.out).mono ?_); rintro e w8 ⟨rfl, hb⟩; have n0_ := Aside0.mk (below_step bA hb); clear HB; have HB := n0_; clear n0_; (try clear hb)) | (go_at_call 62; (with_reducible refine (wide_Add.calls t224 t225 t226 t227 t228 t229 t230 _ A5.out).mono ?_); rintro e w9 ⟨rfl, hb⟩; have n0_ := Aside0.mk (below_step bA hb); clear HB; have HB := n0_; clear n0_; (try clear hb)) | ((with_reducible refine gate_dst (N := 6) rfl ?_); refine bxA 6 #[.int .u64 0, .int .u64 0] 87 ?_; intro gb231 hg w10 hbox hb; have n0_ := Aside0.mk (below_step bA hb); have n1_ := Aside0.mk (hbox); have n2_ := Aside0.mk (gwA hg bA); have n3_ := Aside0.mk (gwA hg bA); clear HB; have HB := n0_; have BK231 := n1_; have GW231 := n2_; have GE231 := n3_; clear n0_ n1_ n2_ n3_ hb hbox hg; have hcz11_0 : w10.cell? ⟨gb231, 0, none⟩ = some (.int .u64 0) := (blk_cell BK231.out 0).trans rfl; have hcz11_1 : w10.cell? ⟨gb231, 1, none⟩ = some (.int .u64 0) := (blk_cell BK231.out 1).trans rfl; have hfz11_0 := blk_frozen BK231.out 0; have hfz11_1 := blk_frozen BK231.out 1) | (go_at_call 47; (with_reducible refine (fixq_of.calls t228 t229 t232 t233 _ A6.out).mono ?_); rintro e w12 ⟨rfl, hb⟩; have n0_ := Aside0.mk (blk_below (g := gb231) (o := .cells #[.int .u64 t228, .int .u64 t229] 87 (0, 0)) (by (with_reducible repeat (first | refine blk_drewN ?_ _ | refine blk_drew ?_ | refine blk_alloc ?_ _)); refine blk_put (cs := #[.int .u64 t228, .int .u64 0]) ?_ 1 _ rfl; (with_reducible repeat (first | refine blk_drewN ?_ _ | refine blk_drew ?_ | refine blk_alloc ?_ _)); refine blk_put (cs := #[.int .u64 0, .int .u64 0]) ?_ 0 _ rfl; exact kA) hb); have n1_ := Aside0.mk (below_step bA hb); clear BK231 HB; have BK231 := n0_; have HB := n1_; clear n0_ n1_; (try clear hb)) | ((with_reducible refine gate_dst (N := 8) rfl ?_); refine bxA 8 #[.int .u64 0, .bool false] 84 ?_; intro gb234 hg w13 hbox hb; have n0_ := Aside0.mk (blk_below (g := gb231) kA hb); have n1_ := Aside0.mk (below_step bA hb); have n2_ := Aside0.mk (hbox); have n3_ := Aside0.mk (gwA hg bA); have n4_ := Aside0.mk (gwA hg bA); have n5_ := Aside0.mk (neA (g := gb231) hg kA); have n6_ := Aside0.mk (neB (g := gb231) hg kA); clear BK231 HB; have BK231 := n0_; have HB := n1_; have BK234 := n2_; have GW234 := n3_; have GE234 := n4_; have NB231_234 := n5_; have NB234_231 := n6_; clear n0_ n1_ n2_ n3_ n4_ n5_ n6_ hb hbox hg; have hnb14 := NB234_231.out; have hnc14 := NB231_234.out; have hcz15_0 : w13.cell? ⟨gb234, 0, none⟩ = some (.int .u64 0) := (blk_cell BK234.out 0).trans rfl; have hcz15_1 : w13.cell? ⟨gb234, 1, none⟩ = some (.bool false) := (blk_cell BK234.out 1).trans rfl; have hfz15_0 := blk_frozen BK234.out 0; have hfz15_1 := blk_frozen BK234.out 1)); try go_wp2_with (first | (go_at_call 49; (with_reducible refine (wide_Of.calls a0 t224 t225 _ A3.out).mono ?_); rintro e w7 ⟨rfl, hb⟩; have n0_ := Aside0.mk (below_step bA hb); clear HB; have HB := n0_; clear n0_; (try clear hb)) | (go_at_call 49; (with_reducible refine (wide_Of.calls a1 t226 t227 _ A4.out).mono ?_); rintro e w8 ⟨rfl, hb⟩; have n0_ := Aside0.mk (below_step bA hb); clear HB; have HB := n0_; clear n0_; (try clear hb)) | (go_at_call 62; (with_reducible refine (wide_Add.calls t224 t225 t226 t227 t228 t229 t230 _ A5.out).mono ?_); rintro e w9 ⟨rfl, hb⟩; have n0_ := Aside0.mk (below_step bA hb); clear HB; have HB := n0_; clear n0_; (try clear hb)) | ((with_reducible refine gate_dst (N := 6) rfl ?_); refine bxA 6 #[.int .u64 0, .int .u64 0] 87 ?_; intro gb231 hg w10 hbox hb; have n0_ := Aside0.mk (below_step bA hb); have n1_ := Aside0.mk (hbox); have n2_ := Aside0.mk (gwA hg bA); have n3_ := Aside0.mk (gwA hg bA); clear HB; have HB := n0_; have BK231 := n1_; have GW231 := n2_; have GE231 := n3_; clear n0_ n1_ n2_ n3_ hb hbox hg; have hcz11_0 : w10.cell? ⟨gb231, 0, none⟩ = some (.int .u64 0) := (blk_cell BK231.out 0).trans rfl; have hcz11_1 : w10.cell? ⟨gb231, 1, none⟩ = some (.int .u64 0) := (blk_cell BK231.out 1).trans rfl; have hfz11_0 := blk_frozen BK231.out 0; have hfz11_1 := blk_frozen BK231.out 1) | (go_at_call 47; (with_reducible refine (fixq_of.calls t228 t229 t232 t233 _ A6.out).mono ?_); rintro e w12 ⟨rfl, hb⟩; have n0_ := Aside0.mk (blk_below (g := gb231) (o := .cells #[.int .u64 t228, .int .u64 t229] 87 (0, 0)) (by (with_reducible repeat (first | refine blk_drewN ?_ _ | refine blk_drew ?_ | refine blk_alloc ?_ _)); refine blk_put (cs := #[.int .u64 t228, .int .u64 0]) ?_ 1 _ rfl; (with_reducible repeat (first | refine blk_drewN ?_ _ | refine blk_drew ?_ | refine blk_alloc ?_ _)); refine blk_put (cs := #[.int .u64 0, .int .u64 0]) ?_ 0 _ rfl; exact kA) hb); have n1_ := Aside0.mk (below_step bA hb); clear BK231 HB; have BK231 := n0_; have HB := n1_; clear n0_ n1_; (try clear hb)) | ((with_reducible refine gate_dst (N := 8) rfl ?_); refine bxA 8 #[.int .u64 0, .bool false] 84 ?_; intro gb234 hg w13 hbox hb; have n0_ := Aside0.mk (blk_below (g := gb231) kA hb); have n1_ := Aside0.mk (below_step bA hb); have n2_ := Aside0.mk (hbox); have n3_ := Aside0.mk (gwA hg bA); have n4_ := Aside0.mk (gwA hg bA); have n5_ := Aside0.mk (neA (g := gb231) hg kA); have n6_ := Aside0.mk (neB (g := gb231) hg kA); clear BK231 HB; have BK231 := n0_; have HB := n1_; have BK234 := n2_; have GW234 := n3_; have GE234 := n4_; have NB231_234 := n5_; have NB234_231 := n6_; clear n0_ n1_ n2_ n3_ n4_ n5_ n6_ hb hbox hg; have hnb14 := NB234_231.out; have hnc14 := NB231_234.out; have hcz15_0 : w13.cell? ⟨gb234, 0, none⟩ = some (.int .u64 0) := (blk_cell BK234.out 0).trans rfl; have hcz15_1 : w13.cell? ⟨gb234, 1, none⟩ = some (.bool false) := (blk_cell BK234.out 1).trans rfl; have hfz15_0 := blk_frozen BK234.out 0; have hfz15_1 := blk_frozen BK234.out 1)))
 go_ret2
 exact ⟨by first | rfl | (simp [errW_none, errW_some] <;> rfl) | (simp [*, errW_none, errW_some] <;> rfl), bA⟩

/-! ### decay_Charge: function 46 -/
def decay_Charge.f (a0 : Int) (a1 : Int) : Option (Int) := if a1 < 0 then (some a0) else ((fixq_Of.f a1).bind fun bt235 => ((fixq_Add.f a0 bt235.1).bind fun bt237 => (some bt237.1)))
set_option maxHeartbeats 8000000 in
set_option maxRecDepth 100000 in
theorem decay_Charge.calls (a0 : Int) (a1 : Int) (r : Int) (w : World) (h : decay_Charge.f a0 a1 = some r) :
  Calls Tryd.prog 46 #[.int .u64 a0, .int .i64 a1] w fun e w' => e = .returned (.int .u64 r) ∧ Below w.heap.size w w' := by
 have HB := Aside0.mk (Below.refl w.heap.size w)
 have H : (if a1 < 0 then (some a0) else ((fixq_Of.f a1).bind fun bt235 => ((fixq_Add.f a0 bt235.1).bind fun bt237 => (some bt237.1)))) = some r := h
 clear h
 by_cases c3 : a1 < 0
 ·rw [if_pos c3] at H
  have c3b0 : decide (a1 < 0) = true := decide_eq_true c3
  clear c3
  obtain rfl := Option.some.inj H
  go_enter Tryd.func46, Tryd.ntmps46
  go_wp2
  go_ret
  exact ⟨by first | rfl | (simp [errW_none, errW_some] <;> rfl) | (simp [*, errW_none, errW_some] <;> rfl), bA⟩
 ·rw [if_neg c3] at H
  have c3b0 : decide (a1 < 0) = false := decide_eq_false c3
  clear c3; replace H := Option.bind_eq_some_iff.mp H; obtain ⟨⟨t235, t236⟩, A40, H⟩ := H; replace H : ((fixq_Add.f a0 t235).bind fun bt237 => (some bt237.1)) = some r := H; have A4 := Aside0.mk A40; clear A40; replace H := Option.bind_eq_some_iff.mp H; obtain ⟨⟨t237, t238⟩, A50, H⟩ := H; replace H : (some t237) = some r := H; have A5 := Aside0.mk A50; clear A50
  obtain rfl := Option.some.inj H
  go_enter Tryd.func46, Tryd.ntmps46
  go_wp2_with (first | ((with_reducible refine gate_callee (f := 24) rfl ?_); refine goesL_ (some 14) rfl rfl Tryd.func24 (by kernel_rfl) rfl #[.int .i64 a1] rfl aA ?_; (with_reducible refine (fixq_Of.calls a1 t235 t236 _ A4.out).mono ?_); rintro e w6 ⟨rfl, hb⟩; refine ⟨_, rfl, ?_⟩; have n0_ := Aside0.mk (below_step bA hb); clear HB; have HB := n0_; clear n0_; (try clear hb)) | ((with_reducible refine gate_callee (f := 38) rfl ?_); refine goesL_ (some 20) rfl rfl Tryd.func38 (by kernel_rfl) rfl #[.int .u64 a0, .int .u64 t235] rfl aA ?_; (with_reducible refine (fixq_Add.calls a0 t235 t237 t238 _ A5.out).mono ?_); rintro e w7 ⟨rfl, hb⟩; refine ⟨_, rfl, ?_⟩; have n0_ := Aside0.mk (below_step bA hb); clear HB; have HB := n0_; clear n0_; (try clear hb)))
  go_ret
  exact ⟨by first | rfl | (simp [errW_none, errW_some] <;> rfl) | (simp [*, errW_none, errW_some] <;> rfl), bA⟩

-- NOT PRINTED: function 22 (ledger_Ledger_Charge)

/-! ### backfilllaw12_plain: function 28 -/
def backfilllaw12_plain.f  : Option (Int × Int × Int × Int × Int × Int × Int × Int) := some (4, 8, 10, 1, 0, 0, 100, 100)
set_option maxHeartbeats 8000000 in
set_option maxRecDepth 100000 in
theorem backfilllaw12_plain.calls  (r1 : Int) (r2 : Int) (r3 : Int) (r4 : Int) (r5 : Int) (r6 : Int) (r7 : Int) (r8 : Int) (w : World) (h : backfilllaw12_plain.f  = some (r1, r2, r3, r4, r5, r6, r7, r8)) :
  Calls Tryd.prog 28 #[] w fun e w' => e = .returned (.agg #[.int .i64 r1, .int .i64 r2, .int .i64 r3, .int .i64 r4, .int .i64 r5, .int .i64 r6, .int .i64 r7, .int .i64 r8]) ∧ Below w.heap.size w w' := by
 have hu23 := Tryd.underlying23
 have HB := Aside0.mk (Below.refl w.heap.size w)
 have H : (some (4, 8, 10, 1, 0, 0, 100, 100)) = some (r1, r2, r3, r4, r5, r6, r7, r8) := h
 clear h
 simp only [Option.some.injEq, Prod.mk.injEq] at H
 obtain ⟨rfl, rfl, rfl, rfl, rfl, rfl, rfl, rfl⟩ := H
 go_enter Tryd.func28, Tryd.ntmps28
 go_wp2_with (first | ((with_reducible refine gate_dst (N := 0) rfl ?_); refine bxA 0 #[.int .i64 0, .int .i64 0, .int .i64 0, .int .i64 0, .int .i64 0, .int .i64 0, .int .i64 0, .int .i64 0] 23 ?_; intro gb239 hg w1 hbox hb; have n0_ := Aside0.mk (below_step bA hb); have n1_ := Aside0.mk (hbox); have n2_ := Aside0.mk (gwA hg bA); have n3_ := Aside0.mk (gwA hg bA); clear HB; have HB := n0_; have BK239 := n1_; have GW239 := n2_; have GE239 := n3_; clear n0_ n1_ n2_ n3_ hb hbox hg; have hcz2_0 : w1.cell? ⟨gb239, 0, none⟩ = some (.int .i64 0) := (blk_cell BK239.out 0).trans rfl; have hcz2_1 : w1.cell? ⟨gb239, 1, none⟩ = some (.int .i64 0) := (blk_cell BK239.out 1).trans rfl; have hcz2_2 : w1.cell? ⟨gb239, 2, none⟩ = some (.int .i64 0) := (blk_cell BK239.out 2).trans rfl; have hcz2_3 : w1.cell? ⟨gb239, 3, none⟩ = some (.int .i64 0) := (blk_cell BK239.out 3).trans rfl; have hcz2_4 : w1.cell? ⟨gb239, 4, none⟩ = some (.int .i64 0) := (blk_cell BK239.out 4).trans rfl; have hcz2_5 : w1.cell? ⟨gb239, 5, none⟩ = some (.int .i64 0) := (blk_cell BK239.out 5).trans rfl; have hcz2_6 : w1.cell? ⟨gb239, 6, none⟩ = some (.int .i64 0) := (blk_cell BK239.out 6).trans rfl; have hcz2_7 : w1.cell? ⟨gb239, 7, none⟩ = some (.int .i64 0) := (blk_cell BK239.out 7).trans rfl; have hfz2_0 := blk_frozen BK239.out 0; have hfz2_1 := blk_frozen BK239.out 1; have hfz2_2 := blk_frozen BK239.out 2; have hfz2_3 := blk_frozen BK239.out 3; have hfz2_4 := blk_frozen BK239.out 4; have hfz2_5 := blk_frozen BK239.out 5; have hfz2_6 := blk_frozen BK239.out 6; have hfz2_7 := blk_frozen BK239.out 7))
 refine bodyPost_ret (results_cell_row rfl _ _ gb239 23 #[.int .i64 4, .int .i64 8, .int .i64 10, .int .i64 1, .int .i64 0, .int .i64 0, .int .i64 100, .int .i64 100] (0, 0) _ rfl (by (with_reducible repeat (first | refine blk_drewN ?_ _ | refine blk_drew ?_ | refine blk_alloc ?_ _)); refine blk_put (cs := #[.int .i64 4, .int .i64 8, .int .i64 10, .int .i64 1, .int .i64 0, .int .i64 0, .int .i64 100, .int .i64 0]) ?_ 7 _ rfl; (with_reducible repeat (first | refine blk_drewN ?_ _ | refine blk_drew ?_ | refine blk_alloc ?_ _)); refine blk_put (cs := #[.int .i64 4, .int .i64 8, .int .i64 10, .int .i64 1, .int .i64 0, .int .i64 0, .int .i64 0, .int .i64 0]) ?_ 6 _ rfl; (with_reducible repeat (first | refine blk_drewN ?_ _ | refine blk_drew ?_ | refine blk_alloc ?_ _)); refine blk_put (cs := #[.int .i64 4, .int .i64 8, .int .i64 10, .int .i64 1, .int .i64 0, .int .i64 0, .int .i64 0, .int .i64 0]) ?_ 5 _ rfl; (with_reducible repeat (first | refine blk_drewN ?_ _ | refine blk_drew ?_ | refine blk_alloc ?_ _)); refine blk_put (cs := #[.int .i64 4, .int .i64 8, .int .i64 10, .int .i64 1, .int .i64 0, .int .i64 0, .int .i64 0, .int .i64 0]) ?_ 4 _ rfl; (with_reducible repeat (first | refine blk_drewN ?_ _ | refine blk_drew ?_ | refine blk_alloc ?_ _)); refine blk_put (cs := #[.int .i64 4, .int .i64 8, .int .i64 10, .int .i64 0, .int .i64 0, .int .i64 0, .int .i64 0, .int .i64 0]) ?_ 3 _ rfl; (with_reducible repeat (first | refine blk_drewN ?_ _ | refine blk_drew ?_ | refine blk_alloc ?_ _)); refine blk_put (cs := #[.int .i64 4, .int .i64 8, .int .i64 0, .int .i64 0, .int .i64 0, .int .i64 0, .int .i64 0, .int .i64 0]) ?_ 2 _ rfl; (with_reducible repeat (first | refine blk_drewN ?_ _ | refine blk_drew ?_ | refine blk_alloc ?_ _)); refine blk_put (cs := #[.int .i64 4, .int .i64 0, .int .i64 0, .int .i64 0, .int .i64 0, .int .i64 0, .int .i64 0, .int .i64 0]) ?_ 1 _ rfl; (with_reducible repeat (first | refine blk_drewN ?_ _ | refine blk_drew ?_ | refine blk_alloc ?_ _)); refine blk_put (cs := #[.int .i64 0, .int .i64 0, .int .i64 0, .int .i64 0, .int .i64 0, .int .i64 0, .int .i64 0, .int .i64 0]) ?_ 0 _ rfl; exact kA) Tryd.underlying23 rfl (by kernel_rfl)) rfl ?_
 exact ⟨by first | rfl | (simp [errW_none, errW_some] <;> rfl) | (simp [*, errW_none, errW_some] <;> rfl), bA⟩

-- NOT PRINTED: function 8 (backfilllaw12_shown)

end Go.Proofs.YtgjjfnjnjnbfgaaDoor.GLG
