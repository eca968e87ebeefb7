-- Laid by a program of this session (wip/tools/pr.py): contracts and pure functions; Lean checks it.
import Derived.Test.YtbhijfbjdbjpbaaDoorGSHx0
import Derived.Test.YtbhijfbjdbjpbaaDoorGSHx2
import Derived.Test.YtbhijfbjdbjpbaaDoorGSHx3
import Derived.Test.YtbhijfbjdbjpbaaDoorGSHx7
namespace Go.Proofs.YtbhijfbjdbjpbaaDoor.GSH
open Go.RowKit Go.Proofs.YtbhijfbjdbjpbaaDoorW.PrintWords Go.Proofs.YtbhijfbjdbjpbaaDoorW.PrintLast Go.Proofs.YtbhijfbjdbjpbaaDoorW.PrintMore
attribute [local go_sem] max2_int min2_int max_two min_two max_three min_three max_four min_four   -- for this text's walks alone
set_option linter.unusedVariables false
set_option linter.unusedSimpArgs false

/-! ### config_Check: function 18 -/
def config_Check.f (k : Nat) (a0 a1 a2 a3 a4 a5 a6 a7 : Int) : Option Int := (config_asked_ranges.f k a0 a1 a2 a3 a4 a5 a6 a7).bind fun e1 => if e1 = 0 then ((config_asked_usage.f a0 a1 a2 a3 a4 a5 a6 a7).bind fun e2 => if e2 = 0 then ((config_asked_scale.f a0 a1 a2 a3 a4 a5 a6 a7).bind fun e3 => if e3 = 0 then (config_asked_off.f a0 a1 a2 a3 a4 a5 a6 a7) else some e3) else some e2) else some e1
theorem config_Check.mono : ∀ a0 a1 a2 a3 a4 a5 a6 a7 k, LeO (config_Check.f k a0 a1 a2 a3 a4 a5 a6 a7) (config_Check.f (k + 1) a0 a1 a2 a3 a4 a5 a6 a7) := by
 intro a0 a1 a2 a3 a4 a5 a6 a7 k
 unfold config_Check.f
 exact LeO.bind (config_asked_ranges.mono _ _ _ _ _ _ _ _ _) (fun _ => LeO.refl _)
set_option maxHeartbeats 8000000 in
set_option maxRecDepth 100000 in
theorem config_Check.walk0 (k : Nat) (a0 a1 a2 a3 a4 a5 a6 a7 r : Int) (w : World) (A0 : Aside0 (config_asked_ranges.f k a0 a1 a2 a3 a4 a5 a6 a7 = some r)) (c2b0 : (r != 0) = true) :
  Calls Tryd.prog 18 #[.agg #[.int .i64 a0, .int .i64 a1, .int .i64 a2, .int .i64 a3, .int .i64 a4, .int .i64 a5, .int .i64 a6, .int .i64 a7]] w fun e w' => e = .returned (.int .i64 r) ∧ Below w.heap.size w w' := by
 have hu39 := Tryd.underlying23
 have hu78 := Tryd.underlying69
 have hmf : ∀ (fn : Fn) (first cap : Array Value) (w : World), (Instr.makeFunc fn first cap).run Tryd.prog w = .ok (.func fn first cap) w := fun _ _ _ _ => rfl
 have hix0 : ∀ (x0 x1 x2 x3 : Value) (w : World), (Instr.index 71 (.agg #[x0, x1, x2, x3]) (.int .i64 0)).run Tryd.prog w = .ok x0 w := by intros; kernel_rfl
 have HB := Aside0.mk (Below.refl w.heap.size w)
 go_enter Tryd.func18, Tryd.ntmps18
 go_wp2_with (first | ((with_reducible refine gate_dst (N := 1) rfl ?_); refine bxA 1 #[.int .i64 a0, .int .i64 a1, .int .i64 a2, .int .i64 a3, .int .i64 a4, .int .i64 a5, .int .i64 a6, .int .i64 a7] 23 ?_; intro gb1 hg w5 hbox hb; have n0_ := Aside0.mk (below_step bA hb); have n1_ := Aside0.mk (hbox); have n2_ := Aside0.mk (gwA hg bA); clear HB; have HB := n0_; have BKgb1 := n1_; have GE1 := n2_; clear n0_ n1_ n2_ hb hbox hg; have hcz1_0 : w5.cell? ⟨gb1, 0, none⟩ = some (.int .i64 a0) := (blk_cell BKgb1.out 0).trans rfl; have hcz1_1 : w5.cell? ⟨gb1, 1, none⟩ = some (.int .i64 a1) := (blk_cell BKgb1.out 1).trans rfl; have hcz1_2 : w5.cell? ⟨gb1, 2, none⟩ = some (.int .i64 a2) := (blk_cell BKgb1.out 2).trans rfl; have hcz1_3 : w5.cell? ⟨gb1, 3, none⟩ = some (.int .i64 a3) := (blk_cell BKgb1.out 3).trans rfl; have hcz1_4 : w5.cell? ⟨gb1, 4, none⟩ = some (.int .i64 a4) := (blk_cell BKgb1.out 4).trans rfl; have hcz1_5 : w5.cell? ⟨gb1, 5, none⟩ = some (.int .i64 a5) := (blk_cell BKgb1.out 5).trans rfl; have hcz1_6 : w5.cell? ⟨gb1, 6, none⟩ = some (.int .i64 a6) := (blk_cell BKgb1.out 6).trans rfl; have hcz1_7 : w5.cell? ⟨gb1, 7, none⟩ = some (.int .i64 a7) := (blk_cell BKgb1.out 7).trans rfl; have hfz1_0 := blk_frozen BKgb1.out 0; have hfz1_1 := blk_frozen BKgb1.out 1; have hfz1_2 := blk_frozen BKgb1.out 2; have hfz1_3 := blk_frozen BKgb1.out 3; have hfz1_4 := blk_frozen BKgb1.out 4; have hfz1_5 := blk_frozen BKgb1.out 5; have hfz1_6 := blk_frozen BKgb1.out 6; have hfz1_7 := blk_frozen BKgb1.out 7) | ((with_reducible refine gate_dst (N := 3) rfl ?_); refine bxA 3 #[.int .i64 0, .int .i64 0, .int .i64 0, .int .i64 0, .int .i64 0, .int .i64 0, .int .i64 0, .int .i64 0] 69 ?_; intro gb2 hg w6 hbox hb; have n0_ := Aside0.mk (below_step bA hb); have n1_ := Aside0.mk (hbox); have n2_ := Aside0.mk (gwA hg bA); clear HB; have HB := n0_; have BKgb2 := n1_; have GE2 := n2_; clear n0_ n1_ n2_ hb hbox hg; have hcy0 : w6.cell? ⟨gb2, 0, none⟩ = some (.int .i64 0) := (blk_cell BKgb2.out 0).trans rfl; have hcy1 : w6.cell? ⟨gb2, 1, none⟩ = some (.int .i64 0) := (blk_cell BKgb2.out 1).trans rfl; have hcy2 : w6.cell? ⟨gb2, 2, none⟩ = some (.int .i64 0) := (blk_cell BKgb2.out 2).trans rfl; have hcy3 : w6.cell? ⟨gb2, 3, none⟩ = some (.int .i64 0) := (blk_cell BKgb2.out 3).trans rfl; have hcy4 : w6.cell? ⟨gb2, 4, none⟩ = some (.int .i64 0) := (blk_cell BKgb2.out 4).trans rfl; have hcy5 : w6.cell? ⟨gb2, 5, none⟩ = some (.int .i64 0) := (blk_cell BKgb2.out 5).trans rfl; have hcy6 : w6.cell? ⟨gb2, 6, none⟩ = some (.int .i64 0) := (blk_cell BKgb2.out 6).trans rfl; have hcy7 : w6.cell? ⟨gb2, 7, none⟩ = some (.int .i64 0) := (blk_cell BKgb2.out 7).trans rfl; have hfy0 := blk_frozen BKgb2.out 0; have hfy1 := blk_frozen BKgb2.out 1; have hfy2 := blk_frozen BKgb2.out 2; have hfy3 := blk_frozen BKgb2.out 3; have hfy4 := blk_frozen BKgb2.out 4; have hfy5 := blk_frozen BKgb2.out 5; have hfy6 := blk_frozen BKgb2.out 6; have hfy7 := blk_frozen BKgb2.out 7))
 have HB1 := Aside0.mk (show Below w.heap.size w _ from bA (W := ((((((((w6.setCell ⟨gb2, 0, none⟩ (.int .i64 a0)).setCell ⟨gb2, 1, none⟩ (.int .i64 a1)).setCell ⟨gb2, 2, none⟩ (.int .i64 a2)).setCell ⟨gb2, 3, none⟩ (.int .i64 a3)).setCell ⟨gb2, 4, none⟩ (.int .i64 a4)).setCell ⟨gb2, 5, none⟩ (.int .i64 a5)).setCell ⟨gb2, 6, none⟩ (.int .i64 a6)).setCell ⟨gb2, 7, none⟩ (.int .i64 a7)))); clear HB
 have HB := HB1
 clear HB1
 generalize ((((((((w6.setCell ⟨gb2, 0, none⟩ (.int .i64 a0)).setCell ⟨gb2, 1, none⟩ (.int .i64 a1)).setCell ⟨gb2, 2, none⟩ (.int .i64 a2)).setCell ⟨gb2, 3, none⟩ (.int .i64 a3)).setCell ⟨gb2, 4, none⟩ (.int .i64 a4)).setCell ⟨gb2, 5, none⟩ (.int .i64 a5)).setCell ⟨gb2, 6, none⟩ (.int .i64 a6)).setCell ⟨gb2, 7, none⟩ (.int .i64 a7)) = w7 at HB ⊢
 refine wp_loop_rounds 5 ?_
 rw [rounds_succ]
 go_wp2_with fail
 refine (config_asked_ranges.calls k a0 a1 a2 a3 a4 a5 a6 a7 r _ A0.out).mono ?_
 rintro e w20 ⟨rfl, hb⟩
 have n0_ := Aside0.mk (below_step bA hb); clear HB; have HB := n0_; clear n0_ hb
 go_wp2_with fail
 go_ret
 exact ⟨by first | rfl | (simp [errW_none, errW_some] <;> rfl) | (simp [*, errW_none, errW_some] <;> rfl), bA⟩
set_option maxHeartbeats 8000000 in
set_option maxRecDepth 100000 in
theorem config_Check.walk1 (k : Nat) (a0 a1 a2 a3 a4 a5 a6 a7 r : Int) (w : World) (A0 : Aside0 (config_asked_ranges.f k a0 a1 a2 a3 a4 a5 a6 a7 = some 0)) (A1 : Aside0 (config_asked_usage.f a0 a1 a2 a3 a4 a5 a6 a7 = some r)) (c2b0 : (r != 0) = true) :
  Calls Tryd.prog 18 #[.agg #[.int .i64 a0, .int .i64 a1, .int .i64 a2, .int .i64 a3, .int .i64 a4, .int .i64 a5, .int .i64 a6, .int .i64 a7]] w fun e w' => e = .returned (.int .i64 r) ∧ Below w.heap.size w w' := by
 have hu39 := Tryd.underlying23
 have hu78 := Tryd.underlying69
 have hmf : ∀ (fn : Fn) (first cap : Array Value) (w : World), (Instr.makeFunc fn first cap).run Tryd.prog w = .ok (.func fn first cap) w := fun _ _ _ _ => rfl
 have hix0 : ∀ (x0 x1 x2 x3 : Value) (w : World), (Instr.index 71 (.agg #[x0, x1, x2, x3]) (.int .i64 0)).run Tryd.prog w = .ok x0 w := by intros; kernel_rfl
 have hix1 : ∀ (x0 x1 x2 x3 : Value) (w : World), (Instr.index 71 (.agg #[x0, x1, x2, x3]) (.int .i64 1)).run Tryd.prog w = .ok x1 w := by intros; kernel_rfl
 have HB := Aside0.mk (Below.refl w.heap.size w)
 go_enter Tryd.func18, Tryd.ntmps18
 go_wp2_with (first | ((with_reducible refine gate_dst (N := 1) rfl ?_); refine bxA 1 #[.int .i64 a0, .int .i64 a1, .int .i64 a2, .int .i64 a3, .int .i64 a4, .int .i64 a5, .int .i64 a6, .int .i64 a7] 23 ?_; intro gb1 hg w5 hbox hb; have n0_ := Aside0.mk (below_step bA hb); have n1_ := Aside0.mk (hbox); have n2_ := Aside0.mk (gwA hg bA); clear HB; have HB := n0_; have BKgb1 := n1_; have GE1 := n2_; clear n0_ n1_ n2_ hb hbox hg; have hcz1_0 : w5.cell? ⟨gb1, 0, none⟩ = some (.int .i64 a0) := (blk_cell BKgb1.out 0).trans rfl; have hcz1_1 : w5.cell? ⟨gb1, 1, none⟩ = some (.int .i64 a1) := (blk_cell BKgb1.out 1).trans rfl; have hcz1_2 : w5.cell? ⟨gb1, 2, none⟩ = some (.int .i64 a2) := (blk_cell BKgb1.out 2).trans rfl; have hcz1_3 : w5.cell? ⟨gb1, 3, none⟩ = some (.int .i64 a3) := (blk_cell BKgb1.out 3).trans rfl; have hcz1_4 : w5.cell? ⟨gb1, 4, none⟩ = some (.int .i64 a4) := (blk_cell BKgb1.out 4).trans rfl; have hcz1_5 : w5.cell? ⟨gb1, 5, none⟩ = some (.int .i64 a5) := (blk_cell BKgb1.out 5).trans rfl; have hcz1_6 : w5.cell? ⟨gb1, 6, none⟩ = some (.int .i64 a6) := (blk_cell BKgb1.out 6).trans rfl; have hcz1_7 : w5.cell? ⟨gb1, 7, none⟩ = some (.int .i64 a7) := (blk_cell BKgb1.out 7).trans rfl; have hfz1_0 := blk_frozen BKgb1.out 0; have hfz1_1 := blk_frozen BKgb1.out 1; have hfz1_2 := blk_frozen BKgb1.out 2; have hfz1_3 := blk_frozen BKgb1.out 3; have hfz1_4 := blk_frozen BKgb1.out 4; have hfz1_5 := blk_frozen BKgb1.out 5; have hfz1_6 := blk_frozen BKgb1.out 6; have hfz1_7 := blk_frozen BKgb1.out 7) | ((with_reducible refine gate_dst (N := 3) rfl ?_); refine bxA 3 #[.int .i64 0, .int .i64 0, .int .i64 0, .int .i64 0, .int .i64 0, .int .i64 0, .int .i64 0, .int .i64 0] 69 ?_; intro gb2 hg w6 hbox hb; have n0_ := Aside0.mk (below_step bA hb); have n1_ := Aside0.mk (hbox); have n2_ := Aside0.mk (gwA hg bA); clear HB; have HB := n0_; have BKgb2 := n1_; have GE2 := n2_; clear n0_ n1_ n2_ hb hbox hg; have hcy0 : w6.cell? ⟨gb2, 0, none⟩ = some (.int .i64 0) := (blk_cell BKgb2.out 0).trans rfl; have hcy1 : w6.cell? ⟨gb2, 1, none⟩ = some (.int .i64 0) := (blk_cell BKgb2.out 1).trans rfl; have hcy2 : w6.cell? ⟨gb2, 2, none⟩ = some (.int .i64 0) := (blk_cell BKgb2.out 2).trans rfl; have hcy3 : w6.cell? ⟨gb2, 3, none⟩ = some (.int .i64 0) := (blk_cell BKgb2.out 3).trans rfl; have hcy4 : w6.cell? ⟨gb2, 4, none⟩ = some (.int .i64 0) := (blk_cell BKgb2.out 4).trans rfl; have hcy5 : w6.cell? ⟨gb2, 5, none⟩ = some (.int .i64 0) := (blk_cell BKgb2.out 5).trans rfl; have hcy6 : w6.cell? ⟨gb2, 6, none⟩ = some (.int .i64 0) := (blk_cell BKgb2.out 6).trans rfl; have hcy7 : w6.cell? ⟨gb2, 7, none⟩ = some (.int .i64 0) := (blk_cell BKgb2.out 7).trans rfl; have hfy0 := blk_frozen BKgb2.out 0; have hfy1 := blk_frozen BKgb2.out 1; have hfy2 := blk_frozen BKgb2.out 2; have hfy3 := blk_frozen BKgb2.out 3; have hfy4 := blk_frozen BKgb2.out 4; have hfy5 := blk_frozen BKgb2.out 5; have hfy6 := blk_frozen BKgb2.out 6; have hfy7 := blk_frozen BKgb2.out 7))
 have HB1 := Aside0.mk (show Below w.heap.size w _ from bA (W := ((((((((w6.setCell ⟨gb2, 0, none⟩ (.int .i64 a0)).setCell ⟨gb2, 1, none⟩ (.int .i64 a1)).setCell ⟨gb2, 2, none⟩ (.int .i64 a2)).setCell ⟨gb2, 3, none⟩ (.int .i64 a3)).setCell ⟨gb2, 4, none⟩ (.int .i64 a4)).setCell ⟨gb2, 5, none⟩ (.int .i64 a5)).setCell ⟨gb2, 6, none⟩ (.int .i64 a6)).setCell ⟨gb2, 7, none⟩ (.int .i64 a7)))); clear HB
 have HB := HB1
 clear HB1
 generalize ((((((((w6.setCell ⟨gb2, 0, none⟩ (.int .i64 a0)).setCell ⟨gb2, 1, none⟩ (.int .i64 a1)).setCell ⟨gb2, 2, none⟩ (.int .i64 a2)).setCell ⟨gb2, 3, none⟩ (.int .i64 a3)).setCell ⟨gb2, 4, none⟩ (.int .i64 a4)).setCell ⟨gb2, 5, none⟩ (.int .i64 a5)).setCell ⟨gb2, 6, none⟩ (.int .i64 a6)).setCell ⟨gb2, 7, none⟩ (.int .i64 a7)) = w7 at HB ⊢
 refine wp_loop_rounds 5 ?_
 rw [rounds_succ]
 go_wp2_with fail
 refine (config_asked_ranges.calls k a0 a1 a2 a3 a4 a5 a6 a7 0 _ A0.out).mono ?_
 rintro e w20 ⟨rfl, hb⟩
 have n0_ := Aside0.mk (below_step bA hb); clear HB; have HB := n0_; clear n0_ hb
 go_wp2_with fail
 rw [rounds_succ]
 go_wp2_with fail
 refine (config_asked_usage.calls a0 a1 a2 a3 a4 a5 a6 a7 r _ A1.out).mono ?_
 rintro e w21 ⟨rfl, hb⟩
 have n0_ := Aside0.mk (below_step bA hb); clear HB; have HB := n0_; clear n0_ hb
 go_wp2_with fail
 go_ret
 exact ⟨by first | rfl | (simp [errW_none, errW_some] <;> rfl) | (simp [*, errW_none, errW_some] <;> rfl), bA⟩
set_option maxHeartbeats 8000000 in
set_option maxRecDepth 100000 in
theorem config_Check.walk2 (k : Nat) (a0 a1 a2 a3 a4 a5 a6 a7 r : Int) (w : World) (A0 : Aside0 (config_asked_ranges.f k a0 a1 a2 a3 a4 a5 a6 a7 = some 0)) (A1 : Aside0 (config_asked_usage.f a0 a1 a2 a3 a4 a5 a6 a7 = some 0)) (A2 : Aside0 (config_asked_scale.f a0 a1 a2 a3 a4 a5 a6 a7 = some r)) (c2b0 : (r != 0) = true) :
  Calls Tryd.prog 18 #[.agg #[.int .i64 a0, .int .i64 a1, .int .i64 a2, .int .i64 a3, .int .i64 a4, .int .i64 a5, .int .i64 a6, .int .i64 a7]] w fun e w' => e = .returned (.int .i64 r) ∧ Below w.heap.size w w' := by
 have hu39 := Tryd.underlying23
 have hu78 := Tryd.underlying69
 have hmf : ∀ (fn : Fn) (first cap : Array Value) (w : World), (Instr.makeFunc fn first cap).run Tryd.prog w = .ok (.func fn first cap) w := fun _ _ _ _ => rfl
 have hix0 : ∀ (x0 x1 x2 x3 : Value) (w : World), (Instr.index 71 (.agg #[x0, x1, x2, x3]) (.int .i64 0)).run Tryd.prog w = .ok x0 w := by intros; kernel_rfl
 have hix1 : ∀ (x0 x1 x2 x3 : Value) (w : World), (Instr.index 71 (.agg #[x0, x1, x2, x3]) (.int .i64 1)).run Tryd.prog w = .ok x1 w := by intros; kernel_rfl
 have hix2 : ∀ (x0 x1 x2 x3 : Value) (w : World), (Instr.index 71 (.agg #[x0, x1, x2, x3]) (.int .i64 2)).run Tryd.prog w = .ok x2 w := by intros; kernel_rfl
 have HB := Aside0.mk (Below.refl w.heap.size w)
 go_enter Tryd.func18, Tryd.ntmps18
 go_wp2_with (first | ((with_reducible refine gate_dst (N := 1) rfl ?_); refine bxA 1 #[.int .i64 a0, .int .i64 a1, .int .i64 a2, .int .i64 a3, .int .i64 a4, .int .i64 a5, .int .i64 a6, .int .i64 a7] 23 ?_; intro gb1 hg w5 hbox hb; have n0_ := Aside0.mk (below_step bA hb); have n1_ := Aside0.mk (hbox); have n2_ := Aside0.mk (gwA hg bA); clear HB; have HB := n0_; have BKgb1 := n1_; have GE1 := n2_; clear n0_ n1_ n2_ hb hbox hg; have hcz1_0 : w5.cell? ⟨gb1, 0, none⟩ = some (.int .i64 a0) := (blk_cell BKgb1.out 0).trans rfl; have hcz1_1 : w5.cell? ⟨gb1, 1, none⟩ = some (.int .i64 a1) := (blk_cell BKgb1.out 1).trans rfl; have hcz1_2 : w5.cell? ⟨gb1, 2, none⟩ = some (.int .i64 a2) := (blk_cell BKgb1.out 2).trans rfl; have hcz1_3 : w5.cell? ⟨gb1, 3, none⟩ = some (.int .i64 a3) := (blk_cell BKgb1.out 3).trans rfl; have hcz1_4 : w5.cell? ⟨gb1, 4, none⟩ = some (.int .i64 a4) := (blk_cell BKgb1.out 4).trans rfl; have hcz1_5 : w5.cell? ⟨gb1, 5, none⟩ = some (.int .i64 a5) := (blk_cell BKgb1.out 5).trans rfl; have hcz1_6 : w5.cell? ⟨gb1, 6, none⟩ = some (.int .i64 a6) := (blk_cell BKgb1.out 6).trans rfl; have hcz1_7 : w5.cell? ⟨gb1, 7, none⟩ = some (.int .i64 a7) := (blk_cell BKgb1.out 7).trans rfl; have hfz1_0 := blk_frozen BKgb1.out 0; have hfz1_1 := blk_frozen BKgb1.out 1; have hfz1_2 := blk_frozen BKgb1.out 2; have hfz1_3 := blk_frozen BKgb1.out 3; have hfz1_4 := blk_frozen BKgb1.out 4; have hfz1_5 := blk_frozen BKgb1.out 5; have hfz1_6 := blk_frozen BKgb1.out 6; have hfz1_7 := blk_frozen BKgb1.out 7) | ((with_reducible refine gate_dst (N := 3) rfl ?_); refine bxA 3 #[.int .i64 0, .int .i64 0, .int .i64 0, .int .i64 0, .int .i64 0, .int .i64 0, .int .i64 0, .int .i64 0] 69 ?_; intro gb2 hg w6 hbox hb; have n0_ := Aside0.mk (below_step bA hb); have n1_ := Aside0.mk (hbox); have n2_ := Aside0.mk (gwA hg bA); clear HB; have HB := n0_; have BKgb2 := n1_; have GE2 := n2_; clear n0_ n1_ n2_ hb hbox hg; have hcy0 : w6.cell? ⟨gb2, 0, none⟩ = some (.int .i64 0) := (blk_cell BKgb2.out 0).trans rfl; have hcy1 : w6.cell? ⟨gb2, 1, none⟩ = some (.int .i64 0) := (blk_cell BKgb2.out 1).trans rfl; have hcy2 : w6.cell? ⟨gb2, 2, none⟩ = some (.int .i64 0) := (blk_cell BKgb2.out 2).trans rfl; have hcy3 : w6.cell? ⟨gb2, 3, none⟩ = some (.int .i64 0) := (blk_cell BKgb2.out 3).trans rfl; have hcy4 : w6.cell? ⟨gb2, 4, none⟩ = some (.int .i64 0) := (blk_cell BKgb2.out 4).trans rfl; have hcy5 : w6.cell? ⟨gb2, 5, none⟩ = some (.int .i64 0) := (blk_cell BKgb2.out 5).trans rfl; have hcy6 : w6.cell? ⟨gb2, 6, none⟩ = some (.int .i64 0) := (blk_cell BKgb2.out 6).trans rfl; have hcy7 : w6.cell? ⟨gb2, 7, none⟩ = some (.int .i64 0) := (blk_cell BKgb2.out 7).trans rfl; have hfy0 := blk_frozen BKgb2.out 0; have hfy1 := blk_frozen BKgb2.out 1; have hfy2 := blk_frozen BKgb2.out 2; have hfy3 := blk_frozen BKgb2.out 3; have hfy4 := blk_frozen BKgb2.out 4; have hfy5 := blk_frozen BKgb2.out 5; have hfy6 := blk_frozen BKgb2.out 6; have hfy7 := blk_frozen BKgb2.out 7))
 have HB1 := Aside0.mk (show Below w.heap.size w _ from bA (W := ((((((((w6.setCell ⟨gb2, 0, none⟩ (.int .i64 a0)).setCell ⟨gb2, 1, none⟩ (.int .i64 a1)).setCell ⟨gb2, 2, none⟩ (.int .i64 a2)).setCell ⟨gb2, 3, none⟩ (.int .i64 a3)).setCell ⟨gb2, 4, none⟩ (.int .i64 a4)).setCell ⟨gb2, 5, none⟩ (.int .i64 a5)).setCell ⟨gb2, 6, none⟩ (.int .i64 a6)).setCell ⟨gb2, 7, none⟩ (.int .i64 a7)))); clear HB
 have HB := HB1
 clear HB1
 generalize ((((((((w6.setCell ⟨gb2, 0, none⟩ (.int .i64 a0)).setCell ⟨gb2, 1, none⟩ (.int .i64 a1)).setCell ⟨gb2, 2, none⟩ (.int .i64 a2)).setCell ⟨gb2, 3, none⟩ (.int .i64 a3)).setCell ⟨gb2, 4, none⟩ (.int .i64 a4)).setCell ⟨gb2, 5, none⟩ (.int .i64 a5)).setCell ⟨gb2, 6, none⟩ (.int .i64 a6)).setCell ⟨gb2, 7, none⟩ (.int .i64 a7)) = w7 at HB ⊢
 refine wp_loop_rounds 5 ?_
 rw [rounds_succ]
 go_wp2_with fail
 refine (config_asked_ranges.calls k a0 a1 a2 a3 a4 a5 a6 a7 0 _ A0.out).mono ?_
 rintro e w20 ⟨rfl, hb⟩
 have n0_ := Aside0.mk (below_step bA hb); clear HB; have HB := n0_; clear n0_ hb
 go_wp2_with fail
 rw [rounds_succ]
 go_wp2_with fail
 refine (config_asked_usage.calls a0 a1 a2 a3 a4 a5 a6 a7 0 _ A1.out).mono ?_
 rintro e w21 ⟨rfl, hb⟩
 have n0_ := Aside0.mk (below_step bA hb); clear HB; have HB := n0_; clear n0_ hb
 go_wp2_with fail
 rw [rounds_succ]
 go_wp2_with fail
 refine (config_asked_scale.calls a0 a1 a2 a3 a4 a5 a6 a7 r _ A2.out).mono ?_
 rintro e w22 ⟨rfl, hb⟩
 have n0_ := Aside0.mk (below_step bA hb); clear HB; have HB := n0_; clear n0_ hb
 go_wp2_with fail
 go_ret
 exact ⟨by first | rfl | (simp [errW_none, errW_some] <;> rfl) | (simp [*, errW_none, errW_some] <;> rfl), bA⟩
set_option maxHeartbeats 8000000 in
set_option maxRecDepth 100000 in
theorem config_Check.walk3 (k : Nat) (a0 a1 a2 a3 a4 a5 a6 a7 r : Int) (w : World) (A0 : Aside0 (config_asked_ranges.f k a0 a1 a2 a3 a4 a5 a6 a7 = some 0)) (A1 : Aside0 (config_asked_usage.f a0 a1 a2 a3 a4 a5 a6 a7 = some 0)) (A2 : Aside0 (config_asked_scale.f a0 a1 a2 a3 a4 a5 a6 a7 = some 0)) (A3 : Aside0 (config_asked_off.f a0 a1 a2 a3 a4 a5 a6 a7 = some r)) (c2b0 : (r != 0) = true) :
  Calls Tryd.prog 18 #[.agg #[.int .i64 a0, .int .i64 a1, .int .i64 a2, .int .i64 a3, .int .i64 a4, .int .i64 a5, .int .i64 a6, .int .i64 a7]] w fun e w' => e = .returned (.int .i64 r) ∧ Below w.heap.size w w' := by
 have hu39 := Tryd.underlying23
 have hu78 := Tryd.underlying69
 have hmf : ∀ (fn : Fn) (first cap : Array Value) (w : World), (Instr.makeFunc fn first cap).run Tryd.prog w = .ok (.func fn first cap) w := fun _ _ _ _ => rfl
 have hix0 : ∀ (x0 x1 x2 x3 : Value) (w : World), (Instr.index 71 (.agg #[x0, x1, x2, x3]) (.int .i64 0)).run Tryd.prog w = .ok x0 w := by intros; kernel_rfl
 have hix1 : ∀ (x0 x1 x2 x3 : Value) (w : World), (Instr.index 71 (.agg #[x0, x1, x2, x3]) (.int .i64 1)).run Tryd.prog w = .ok x1 w := by intros; kernel_rfl
 have hix2 : ∀ (x0 x1 x2 x3 : Value) (w : World), (Instr.index 71 (.agg #[x0, x1, x2, x3]) (.int .i64 2)).run Tryd.prog w = .ok x2 w := by intros; kernel_rfl
 have hix3 : ∀ (x0 x1 x2 x3 : Value) (w : World), (Instr.index 71 (.agg #[x0, x1, x2, x3]) (.int .i64 3)).run Tryd.prog w = .ok x3 w := by intros; kernel_rfl
 have HB := Aside0.mk (Below.refl w.heap.size w)
 go_enter Tryd.func18, Tryd.ntmps18
 go_wp2_with (first | ((with_reducible refine gate_dst (N := 1) rfl ?_); refine bxA 1 #[.int .i64 a0, .int .i64 a1, .int .i64 a2, .int .i64 a3, .int .i64 a4, .int .i64 a5, .int .i64 a6, .int .i64 a7] 23 ?_; intro gb1 hg w5 hbox hb; have n0_ := Aside0.mk (below_step bA hb); have n1_ := Aside0.mk (hbox); have n2_ := Aside0.mk (gwA hg bA); clear HB; have HB := n0_; have BKgb1 := n1_; have GE1 := n2_; clear n0_ n1_ n2_ hb hbox hg; have hcz1_0 : w5.cell? ⟨gb1, 0, none⟩ = some (.int .i64 a0) := (blk_cell BKgb1.out 0).trans rfl; have hcz1_1 : w5.cell? ⟨gb1, 1, none⟩ = some (.int .i64 a1) := (blk_cell BKgb1.out 1).trans rfl; have hcz1_2 : w5.cell? ⟨gb1, 2, none⟩ = some (.int .i64 a2) := (blk_cell BKgb1.out 2).trans rfl; have hcz1_3 : w5.cell? ⟨gb1, 3, none⟩ = some (.int .i64 a3) := (blk_cell BKgb1.out 3).trans rfl; have hcz1_4 : w5.cell? ⟨gb1, 4, none⟩ = some (.int .i64 a4) := (blk_cell BKgb1.out 4).trans rfl; have hcz1_5 : w5.cell? ⟨gb1, 5, none⟩ = some (.int .i64 a5) := (blk_cell BKgb1.out 5).trans rfl; have hcz1_6 : w5.cell? ⟨gb1, 6, none⟩ = some (.int .i64 a6) := (blk_cell BKgb1.out 6).trans rfl; have hcz1_7 : w5.cell? ⟨gb1, 7, none⟩ = some (.int .i64 a7) := (blk_cell BKgb1.out 7).trans rfl; have hfz1_0 := blk_frozen BKgb1.out 0; have hfz1_1 := blk_frozen BKgb1.out 1; have hfz1_2 := blk_frozen BKgb1.out 2; have hfz1_3 := blk_frozen BKgb1.out 3; have hfz1_4 := blk_frozen BKgb1.out 4; have hfz1_5 := blk_frozen BKgb1.out 5; have hfz1_6 := blk_frozen BKgb1.out 6; have hfz1_7 := blk_frozen BKgb1.out 7) | ((with_reducible refine gate_dst (N := 3) rfl ?_); refine bxA 3 #[.int .i64 0, .int .i64 0, .int .i64 0, .int .i64 0, .int .i64 0, .int .i64 0, .int .i64 0, .int .i64 0] 69 ?_; intro gb2 hg w6 hbox hb; have n0_ := Aside0.mk (below_step bA hb); have n1_ := Aside0.mk (hbox); have n2_ := Aside0.mk (gwA hg bA); clear HB; have HB := n0_; have BKgb2 := n1_; have GE2 := n2_; clear n0_ n1_ n2_ hb hbox hg; have hcy0 : w6.cell? ⟨gb2, 0, none⟩ = some (.int .i64 0) := (blk_cell BKgb2.out 0).trans rfl; have hcy1 : w6.cell? ⟨gb2, 1, none⟩ = some (.int .i64 0) := (blk_cell BKgb2.out 1).trans rfl; have hcy2 : w6.cell? ⟨gb2, 2, none⟩ = some (.int .i64 0) := (blk_cell BKgb2.out 2).trans rfl; have hcy3 : w6.cell? ⟨gb2, 3, none⟩ = some (.int .i64 0) := (blk_cell BKgb2.out 3).trans rfl; have hcy4 : w6.cell? ⟨gb2, 4, none⟩ = some (.int .i64 0) := (blk_cell BKgb2.out 4).trans rfl; have hcy5 : w6.cell? ⟨gb2, 5, none⟩ = some (.int .i64 0) := (blk_cell BKgb2.out 5).trans rfl; have hcy6 : w6.cell? ⟨gb2, 6, none⟩ = some (.int .i64 0) := (blk_cell BKgb2.out 6).trans rfl; have hcy7 : w6.cell? ⟨gb2, 7, none⟩ = some (.int .i64 0) := (blk_cell BKgb2.out 7).trans rfl; have hfy0 := blk_frozen BKgb2.out 0; have hfy1 := blk_frozen BKgb2.out 1; have hfy2 := blk_frozen BKgb2.out 2; have hfy3 := blk_frozen BKgb2.out 3; have hfy4 := blk_frozen BKgb2.out 4; have hfy5 := blk_frozen BKgb2.out 5; have hfy6 := blk_frozen BKgb2.out 6; have hfy7 := blk_frozen BKgb2.out 7))
 have HB1 := Aside0.mk (show Below w.heap.size w _ from bA (W := ((((((((w6.setCell ⟨gb2, 0, none⟩ (.int .i64 a0)).setCell ⟨gb2, 1, none⟩ (.int .i64 a1)).setCell ⟨gb2, 2, none⟩ (.int .i64 a2)).setCell ⟨gb2, 3, none⟩ (.int .i64 a3)).setCell ⟨gb2, 4, none⟩ (.int .i64 a4)).setCell ⟨gb2, 5, none⟩ (.int .i64 a5)).setCell ⟨gb2, 6, none⟩ (.int .i64 a6)).setCell ⟨gb2, 7, none⟩ (.int .i64 a7)))); clear HB
 have HB := HB1
 clear HB1
 generalize ((((((((w6.setCell ⟨gb2, 0, none⟩ (.int .i64 a0)).setCell ⟨gb2, 1, none⟩ (.int .i64 a1)).setCell ⟨gb2, 2, none⟩ (.int .i64 a2)).setCell ⟨gb2, 3, none⟩ (.int .i64 a3)).setCell ⟨gb2, 4, none⟩ (.int .i64 a4)).setCell ⟨gb2, 5, none⟩ (.int .i64 a5)).setCell ⟨gb2, 6, none⟩ (.int .i64 a6)).setCell ⟨gb2, 7, none⟩ (.int .i64 a7)) = w7 at HB ⊢
 refine wp_loop_rounds 5 ?_
 rw [rounds_succ]
 go_wp2_with fail
 refine (config_asked_ranges.calls k a0 a1 a2 a3 a4 a5 a6 a7 0 _ A0.out).mono ?_
 rintro e w20 ⟨rfl, hb⟩
 have n0_ := Aside0.mk (below_step bA hb); clear HB; have HB := n0_; clear n0_ hb
 go_wp2_with fail
 rw [rounds_succ]
 go_wp2_with fail
 refine (config_asked_usage.calls a0 a1 a2 a3 a4 a5 a6 a7 0 _ A1.out).mono ?_
 rintro e w21 ⟨rfl, hb⟩
 have n0_ := Aside0.mk (below_step bA hb); clear HB; have HB := n0_; clear n0_ hb
 go_wp2_with fail
 rw [rounds_succ]
 go_wp2_with fail
 refine (config_asked_scale.calls a0 a1 a2 a3 a4 a5 a6 a7 0 _ A2.out).mono ?_
 rintro e w22 ⟨rfl, hb⟩
 have n0_ := Aside0.mk (below_step bA hb); clear HB; have HB := n0_; clear n0_ hb
 go_wp2_with fail
 rw [rounds_succ]
 go_wp2_with fail
 refine (config_asked_off.calls a0 a1 a2 a3 a4 a5 a6 a7 r _ A3.out).mono ?_
 rintro e w23 ⟨rfl, hb⟩
 have n0_ := Aside0.mk (below_step bA hb); clear HB; have HB := n0_; clear n0_ hb
 go_wp2_with fail
 go_ret
 exact ⟨by first | rfl | (simp [errW_none, errW_some] <;> rfl) | (simp [*, errW_none, errW_some] <;> rfl), bA⟩
set_option maxHeartbeats 8000000 in
set_option maxRecDepth 100000 in
theorem config_Check.walk4 (k : Nat) (a0 a1 a2 a3 a4 a5 a6 a7 : Int) (w : World) (A0 : Aside0 (config_asked_ranges.f k a0 a1 a2 a3 a4 a5 a6 a7 = some 0)) (A1 : Aside0 (config_asked_usage.f a0 a1 a2 a3 a4 a5 a6 a7 = some 0)) (A2 : Aside0 (config_asked_scale.f a0 a1 a2 a3 a4 a5 a6 a7 = some 0)) (A3 : Aside0 (config_asked_off.f a0 a1 a2 a3 a4 a5 a6 a7 = some 0)) :
  Calls Tryd.prog 18 #[.agg #[.int .i64 a0, .int .i64 a1, .int .i64 a2, .int .i64 a3, .int .i64 a4, .int .i64 a5, .int .i64 a6, .int .i64 a7]] w fun e w' => e = .returned (.int .i64 0) ∧ Below w.heap.size w w' := by
 have hu39 := Tryd.underlying23
 have hu78 := Tryd.underlying69
 have hmf : ∀ (fn : Fn) (first cap : Array Value) (w : World), (Instr.makeFunc fn first cap).run Tryd.prog w = .ok (.func fn first cap) w := fun _ _ _ _ => rfl
 have hix0 : ∀ (x0 x1 x2 x3 : Value) (w : World), (Instr.index 71 (.agg #[x0, x1, x2, x3]) (.int .i64 0)).run Tryd.prog w = .ok x0 w := by intros; kernel_rfl
 have hix1 : ∀ (x0 x1 x2 x3 : Value) (w : World), (Instr.index 71 (.agg #[x0, x1, x2, x3]) (.int .i64 1)).run Tryd.prog w = .ok x1 w := by intros; kernel_rfl
 have hix2 : ∀ (x0 x1 x2 x3 : Value) (w : World), (Instr.index 71 (.agg #[x0, x1, x2, x3]) (.int .i64 2)).run Tryd.prog w = .ok x2 w := by intros; kernel_rfl
 have hix3 : ∀ (x0 x1 x2 x3 : Value) (w : World), (Instr.index 71 (.agg #[x0, x1, x2, x3]) (.int .i64 3)).run Tryd.prog w = .ok x3 w := by intros; kernel_rfl
 have HB := Aside0.mk (Below.refl w.heap.size w)
 go_enter Tryd.func18, Tryd.ntmps18
 go_wp2_with (first | ((with_reducible refine gate_dst (N := 1) rfl ?_); refine bxA 1 #[.int .i64 a0, .int .i64 a1, .int .i64 a2, .int .i64 a3, .int .i64 a4, .int .i64 a5, .int .i64 a6, .int .i64 a7] 23 ?_; intro gb1 hg w5 hbox hb; have n0_ := Aside0.mk (below_step bA hb); have n1_ := Aside0.mk (hbox); have n2_ := Aside0.mk (gwA hg bA); clear HB; have HB := n0_; have BKgb1 := n1_; have GE1 := n2_; clear n0_ n1_ n2_ hb hbox hg; have hcz1_0 : w5.cell? ⟨gb1, 0, none⟩ = some (.int .i64 a0) := (blk_cell BKgb1.out 0).trans rfl; have hcz1_1 : w5.cell? ⟨gb1, 1, none⟩ = some (.int .i64 a1) := (blk_cell BKgb1.out 1).trans rfl; have hcz1_2 : w5.cell? ⟨gb1, 2, none⟩ = some (.int .i64 a2) := (blk_cell BKgb1.out 2).trans rfl; have hcz1_3 : w5.cell? ⟨gb1, 3, none⟩ = some (.int .i64 a3) := (blk_cell BKgb1.out 3).trans rfl; have hcz1_4 : w5.cell? ⟨gb1, 4, none⟩ = some (.int .i64 a4) := (blk_cell BKgb1.out 4).trans rfl; have hcz1_5 : w5.cell? ⟨gb1, 5, none⟩ = some (.int .i64 a5) := (blk_cell BKgb1.out 5).trans rfl; have hcz1_6 : w5.cell? ⟨gb1, 6, none⟩ = some (.int .i64 a6) := (blk_cell BKgb1.out 6).trans rfl; have hcz1_7 : w5.cell? ⟨gb1, 7, none⟩ = some (.int .i64 a7) := (blk_cell BKgb1.out 7).trans rfl; have hfz1_0 := blk_frozen BKgb1.out 0; have hfz1_1 := blk_frozen BKgb1.out 1; have hfz1_2 := blk_frozen BKgb1.out 2; have hfz1_3 := blk_frozen BKgb1.out 3; have hfz1_4 := blk_frozen BKgb1.out 4; have hfz1_5 := blk_frozen BKgb1.out 5; have hfz1_6 := blk_frozen BKgb1.out 6; have hfz1_7 := blk_frozen BKgb1.out 7) | ((with_reducible refine gate_dst (N := 3) rfl ?_); refine bxA 3 #[.int .i64 0, .int .i64 0, .int .i64 0, .int .i64 0, .int .i64 0, .int .i64 0, .int .i64 0, .int .i64 0] 69 ?_; intro gb2 hg w6 hbox hb; have n0_ := Aside0.mk (below_step bA hb); have n1_ := Aside0.mk (hbox); have n2_ := Aside0.mk (gwA hg bA); clear HB; have HB := n0_; have BKgb2 := n1_; have GE2 := n2_; clear n0_ n1_ n2_ hb hbox hg; have hcy0 : w6.cell? ⟨gb2, 0, none⟩ = some (.int .i64 0) := (blk_cell BKgb2.out 0).trans rfl; have hcy1 : w6.cell? ⟨gb2, 1, none⟩ = some (.int .i64 0) := (blk_cell BKgb2.out 1).trans rfl; have hcy2 : w6.cell? ⟨gb2, 2, none⟩ = some (.int .i64 0) := (blk_cell BKgb2.out 2).trans rfl; have hcy3 : w6.cell? ⟨gb2, 3, none⟩ = some (.int .i64 0) := (blk_cell BKgb2.out 3).trans rfl; have hcy4 : w6.cell? ⟨gb2, 4, none⟩ = some (.int .i64 0) := (blk_cell BKgb2.out 4).trans rfl; have hcy5 : w6.cell? ⟨gb2, 5, none⟩ = some (.int .i64 0) := (blk_cell BKgb2.out 5).trans rfl; have hcy6 : w6.cell? ⟨gb2, 6, none⟩ = some (.int .i64 0) := (blk_cell BKgb2.out 6).trans rfl; have hcy7 : w6.cell? ⟨gb2, 7, none⟩ = some (.int .i64 0) := (blk_cell BKgb2.out 7).trans rfl; have hfy0 := blk_frozen BKgb2.out 0; have hfy1 := blk_frozen BKgb2.out 1; have hfy2 := blk_frozen BKgb2.out 2; have hfy3 := blk_frozen BKgb2.out 3; have hfy4 := blk_frozen BKgb2.out 4; have hfy5 := blk_frozen BKgb2.out 5; have hfy6 := blk_frozen BKgb2.out 6; have hfy7 := blk_frozen BKgb2.out 7))
 have HB1 := Aside0.mk (show Below w.heap.size w _ from bA (W := ((((((((w6.setCell ⟨gb2, 0, none⟩ (.int .i64 a0)).setCell ⟨gb2, 1, none⟩ (.int .i64 a1)).setCell ⟨gb2, 2, none⟩ (.int .i64 a2)).setCell ⟨gb2, 3, none⟩ (.int .i64 a3)).setCell ⟨gb2, 4, none⟩ (.int .i64 a4)).setCell ⟨gb2, 5, none⟩ (.int .i64 a5)).setCell ⟨gb2, 6, none⟩ (.int .i64 a6)).setCell ⟨gb2, 7, none⟩ (.int .i64 a7)))); clear HB
 have HB := HB1
 clear HB1
 generalize ((((((((w6.setCell ⟨gb2, 0, none⟩ (.int .i64 a0)).setCell ⟨gb2, 1, none⟩ (.int .i64 a1)).setCell ⟨gb2, 2, none⟩ (.int .i64 a2)).setCell ⟨gb2, 3, none⟩ (.int .i64 a3)).setCell ⟨gb2, 4, none⟩ (.int .i64 a4)).setCell ⟨gb2, 5, none⟩ (.int .i64 a5)).setCell ⟨gb2, 6, none⟩ (.int .i64 a6)).setCell ⟨gb2, 7, none⟩ (.int .i64 a7)) = w7 at HB ⊢
 refine wp_loop_rounds 5 ?_
 rw [rounds_succ]
 go_wp2_with fail
 refine (config_asked_ranges.calls k a0 a1 a2 a3 a4 a5 a6 a7 0 _ A0.out).mono ?_
 rintro e w20 ⟨rfl, hb⟩
 have n0_ := Aside0.mk (below_step bA hb); clear HB; have HB := n0_; clear n0_ hb
 go_wp2_with fail
 rw [rounds_succ]
 go_wp2_with fail
 refine (config_asked_usage.calls a0 a1 a2 a3 a4 a5 a6 a7 0 _ A1.out).mono ?_
 rintro e w21 ⟨rfl, hb⟩
 have n0_ := Aside0.mk (below_step bA hb); clear HB; have HB := n0_; clear n0_ hb
 go_wp2_with fail
 rw [rounds_succ]
 go_wp2_with fail
 refine (config_asked_scale.calls a0 a1 a2 a3 a4 a5 a6 a7 0 _ A2.out).mono ?_
 rintro e w22 ⟨rfl, hb⟩
 have n0_ := Aside0.mk (below_step bA hb); clear HB; have HB := n0_; clear n0_ hb
 go_wp2_with fail
 rw [rounds_succ]
 go_wp2_with fail
 refine (config_asked_off.calls a0 a1 a2 a3 a4 a5 a6 a7 0 _ A3.out).mono ?_
 rintro e w23 ⟨rfl, hb⟩
 have n0_ := Aside0.mk (below_step bA hb); clear HB; have HB := n0_; clear n0_ hb
 go_wp2_with fail
 rw [rounds_succ]
 go_wp2
 go_ret
 exact ⟨by first | rfl | (simp [errW_none, errW_some] <;> rfl) | (simp [*, errW_none, errW_some] <;> rfl), bA⟩
theorem config_Check.calls (k : Nat) (a0 a1 a2 a3 a4 a5 a6 a7 r : Int) (w : World) (h : config_Check.f k a0 a1 a2 a3 a4 a5 a6 a7 = some r) :
  Calls Tryd.prog 18 #[.agg #[.int .i64 a0, .int .i64 a1, .int .i64 a2, .int .i64 a3, .int .i64 a4, .int .i64 a5, .int .i64 a6, .int .i64 a7]] w fun e w' => e = .returned (.int .i64 r) ∧ Below w.heap.size w w' := by
 unfold config_Check.f at h
 obtain ⟨e1, h1, h⟩ := Option.bind_eq_some_iff.mp h
 by_cases c1 : e1 = 0
 ·rw [if_pos c1] at h
  subst c1
  obtain ⟨e2, h2, h⟩ := Option.bind_eq_some_iff.mp h
  by_cases c2 : e2 = 0
  ·rw [if_pos c2] at h
   subst c2
   obtain ⟨e3, h3, h⟩ := Option.bind_eq_some_iff.mp h
   by_cases c3 : e3 = 0
   ·rw [if_pos c3] at h
    subst c3
    by_cases c4 : r = 0
    ·subst c4
     exact config_Check.walk4 k a0 a1 a2 a3 a4 a5 a6 a7 w ⟨h1⟩ ⟨h2⟩ ⟨h3⟩ ⟨h⟩
    ·exact config_Check.walk3 k a0 a1 a2 a3 a4 a5 a6 a7 r w ⟨h1⟩ ⟨h2⟩ ⟨h3⟩ ⟨h⟩ (bne_iff_ne.mpr c4)
   ·rw [if_neg c3] at h
    obtain rfl := Option.some.inj h
    exact config_Check.walk2 k a0 a1 a2 a3 a4 a5 a6 a7 _ w ⟨h1⟩ ⟨h2⟩ ⟨h3⟩ (bne_iff_ne.mpr c3)
  ·rw [if_neg c2] at h
   obtain rfl := Option.some.inj h
   exact config_Check.walk1 k a0 a1 a2 a3 a4 a5 a6 a7 _ w ⟨h1⟩ ⟨h2⟩ (bne_iff_ne.mpr c2)
 ·rw [if_neg c1] at h
  obtain rfl := Option.some.inj h
  exact config_Check.walk0 k a0 a1 a2 a3 a4 a5 a6 a7 _ w ⟨h1⟩ (bne_iff_ne.mpr c1)

-- NOT PRINTED: function 19 (share_sums)

/-! ### config_Floor: function 20 -/
def config_Floor.f (k : Nat) (a0_0 : Int) (a0_1 : Int) (a0_2 : Int) (a0_3 : Int) (a0_4 : Int) (a0_5 : Int) (a0_6 : Int) (a0_7 : Int) : Option (Int) := (config_Check.f k a0_0 a0_1 a0_2 a0_3 a0_4 a0_5 a0_6 a0_7).bind fun t204 => (if t204 = 0 then ((config_asked_area.f a0_0 a0_1 a0_2 a0_3 a0_4 a0_5 a0_6 a0_7).bind fun t205 => (some (IntKind.u64.wrap ((IntKind.u64.wrap (t205)) * 4294967296)))) else (some 0))
theorem config_Floor.mono : ∀ a0 a1 a2 a3 a4 a5 a6 a7 k, LeO (config_Floor.f k a0 a1 a2 a3 a4 a5 a6 a7) (config_Floor.f (k + 1) a0 a1 a2 a3 a4 a5 a6 a7) := by
 intro a0 a1 a2 a3 a4 a5 a6 a7 k
 unfold config_Floor.f
 repeat' first
   | (with_reducible exact config_Check.mono _ _ _ _ _ _ _ _ _)
   | (with_reducible exact LeO.refl _)
   | (with_reducible exact LeO.none _)
   | (with_reducible refine LeO.ite ?_ ?_)
   | (with_reducible refine LeO.bind ?_ (fun _ => ?_))
   | exact config_Check.mono _ _ _ _ _ _ _ _ _
   | exact LeO.none _
   | refine LeO.ite ?_ ?_
   | refine LeO.bind ?_ (fun _ => ?_)
set_option maxHeartbeats 8000000 in
set_option maxRecDepth 100000 in
theorem config_Floor.calls (k : Nat) (a0_0 : Int) (a0_1 : Int) (a0_2 : Int) (a0_3 : Int) (a0_4 : Int) (a0_5 : Int) (a0_6 : Int) (a0_7 : Int) (r : Int) (w : World) (h : config_Floor.f k a0_0 a0_1 a0_2 a0_3 a0_4 a0_5 a0_6 a0_7 = some r) :
  Calls Tryd.prog 20 #[.agg #[.int .i64 a0_0, .int .i64 a0_1, .int .i64 a0_2, .int .i64 a0_3, .int .i64 a0_4, .int .i64 a0_5, .int .i64 a0_6, .int .i64 a0_7]] w fun e w' => e = .returned (.int .u64 r) ∧ Below w.heap.size w w' := by
 have hu23 := Tryd.underlying23
 have hu69 := Tryd.underlying69
 have HB := Aside0.mk (Below.refl w.heap.size w)
 have H : ((config_Check.f k a0_0 a0_1 a0_2 a0_3 a0_4 a0_5 a0_6 a0_7).bind fun t204 => (if t204 = 0 then ((config_asked_area.f a0_0 a0_1 a0_2 a0_3 a0_4 a0_5 a0_6 a0_7).bind fun t205 => (some (IntKind.u64.wrap ((IntKind.u64.wrap (t205)) * 4294967296)))) else (some 0))) = some r := h
 clear h; replace H := Option.bind_eq_some_iff.mp H; obtain ⟨t204, A20, H⟩ := H; replace H : (if t204 = 0 then ((config_asked_area.f a0_0 a0_1 a0_2 a0_3 a0_4 a0_5 a0_6 a0_7).bind fun t205 => (some (IntKind.u64.wrap ((IntKind.u64.wrap (t205)) * 4294967296)))) else (some 0)) = some r := H; have A2 := Aside0.mk A20; clear A20
 by_cases c3 : t204 = 0
 ·rw [if_pos c3] at H
  have c3b0 : (t204 == 0) = true := beq_iff_eq.mpr c3
  have c3b1 : (t204 != 0) = false := bne_eq_false_iff_eq.mpr c3
  clear c3; replace H := Option.bind_eq_some_iff.mp H; obtain ⟨t205, A40, H⟩ := H; replace H : (some (IntKind.u64.wrap ((IntKind.u64.wrap (t205)) * 4294967296))) = some r := H; have A4 := Aside0.mk A40; clear A40
  obtain rfl := Option.some.inj H
  go_enter Tryd.func20, Tryd.ntmps20
  go_wp2_with (first | ((with_reducible refine gate_dst (N := 1) rfl ?_); refine bxA 1 #[.int .i64 a0_0, .int .i64 a0_1, .int .i64 a0_2, .int .i64 a0_3, .int .i64 a0_4, .int .i64 a0_5, .int .i64 a0_6, .int .i64 a0_7] 23 ?_; intro gb203 hg w5 hbox hb; have n0_ := Aside0.mk (below_step bA hb); have n1_ := Aside0.mk (hbox); have n2_ := Aside0.mk (gwA hg bA); have n3_ := Aside0.mk (gwA hg bA); clear HB; have HB := n0_; have BK203 := n1_; have GW203 := n2_; have GE203 := n3_; clear n0_ n1_ n2_ n3_ hb hbox hg; have hcz6_0 : w5.cell? ⟨gb203, 0, none⟩ = some (.int .i64 a0_0) := (blk_cell BK203.out 0).trans rfl; have hcz6_1 : w5.cell? ⟨gb203, 1, none⟩ = some (.int .i64 a0_1) := (blk_cell BK203.out 1).trans rfl; have hcz6_2 : w5.cell? ⟨gb203, 2, none⟩ = some (.int .i64 a0_2) := (blk_cell BK203.out 2).trans rfl; have hcz6_3 : w5.cell? ⟨gb203, 3, none⟩ = some (.int .i64 a0_3) := (blk_cell BK203.out 3).trans rfl; have hcz6_4 : w5.cell? ⟨gb203, 4, none⟩ = some (.int .i64 a0_4) := (blk_cell BK203.out 4).trans rfl; have hcz6_5 : w5.cell? ⟨gb203, 5, none⟩ = some (.int .i64 a0_5) := (blk_cell BK203.out 5).trans rfl; have hcz6_6 : w5.cell? ⟨gb203, 6, none⟩ = some (.int .i64 a0_6) := (blk_cell BK203.out 6).trans rfl; have hcz6_7 : w5.cell? ⟨gb203, 7, none⟩ = some (.int .i64 a0_7) := (blk_cell BK203.out 7).trans rfl; have hfz6_0 := blk_frozen BK203.out 0; have hfz6_1 := blk_frozen BK203.out 1; have hfz6_2 := blk_frozen BK203.out 2; have hfz6_3 := blk_frozen BK203.out 3; have hfz6_4 := blk_frozen BK203.out 4; have hfz6_5 := blk_frozen BK203.out 5; have hfz6_6 := blk_frozen BK203.out 6; have hfz6_7 := blk_frozen BK203.out 7) | ((with_reducible refine gate_callee (f := 18) rfl ?_); refine goesL_ (some 4) rfl rfl Tryd.func18 (by kernel_rfl) rfl #[.agg #[.int .i64 a0_0, .int .i64 a0_1, .int .i64 a0_2, .int .i64 a0_3, .int .i64 a0_4, .int .i64 a0_5, .int .i64 a0_6, .int .i64 a0_7]] rfl aA ?_; (with_reducible refine (config_Check.calls k a0_0 a0_1 a0_2 a0_3 a0_4 a0_5 a0_6 a0_7 t204 _ A2.out).mono ?_); rintro e w7 ⟨rfl, hb⟩; refine ⟨_, rfl, ?_⟩; have n0_ := Aside0.mk (blk_below (g := gb203) kA hb); have n1_ := Aside0.mk (below_step bA hb); clear BK203 HB; have BK203 := n0_; have HB := n1_; clear n0_ n1_; (try clear hb); have hcz8_0 : w7.cell? ⟨gb203, 0, none⟩ = some (.int .i64 a0_0) := (blk_cell BK203.out 0).trans rfl; have hcz8_1 : w7.cell? ⟨gb203, 1, none⟩ = some (.int .i64 a0_1) := (blk_cell BK203.out 1).trans rfl; have hcz8_2 : w7.cell? ⟨gb203, 2, none⟩ = some (.int .i64 a0_2) := (blk_cell BK203.out 2).trans rfl; have hcz8_3 : w7.cell? ⟨gb203, 3, none⟩ = some (.int .i64 a0_3) := (blk_cell BK203.out 3).trans rfl; have hcz8_4 : w7.cell? ⟨gb203, 4, none⟩ = some (.int .i64 a0_4) := (blk_cell BK203.out 4).trans rfl; have hcz8_5 : w7.cell? ⟨gb203, 5, none⟩ = some (.int .i64 a0_5) := (blk_cell BK203.out 5).trans rfl; have hcz8_6 : w7.cell? ⟨gb203, 6, none⟩ = some (.int .i64 a0_6) := (blk_cell BK203.out 6).trans rfl; have hcz8_7 : w7.cell? ⟨gb203, 7, none⟩ = some (.int .i64 a0_7) := (blk_cell BK203.out 7).trans rfl; have hfz8_0 := blk_frozen BK203.out 0; have hfz8_1 := blk_frozen BK203.out 1; have hfz8_2 := blk_frozen BK203.out 2; have hfz8_3 := blk_frozen BK203.out 3; have hfz8_4 := blk_frozen BK203.out 4; have hfz8_5 := blk_frozen BK203.out 5; have hfz8_6 := blk_frozen BK203.out 6; have hfz8_7 := blk_frozen BK203.out 7) | ((with_reducible refine gate_callee (f := 40) rfl ?_); refine goesL_ (some 8) rfl rfl Tryd.func40 (by kernel_rfl) rfl #[.agg #[.int .i64 a0_0, .int .i64 a0_1, .int .i64 a0_2, .int .i64 a0_3, .int .i64 a0_4, .int .i64 a0_5, .int .i64 a0_6, .int .i64 a0_7]] rfl aA ?_; (with_reducible refine (config_asked_area.calls a0_0 a0_1 a0_2 a0_3 a0_4 a0_5 a0_6 a0_7 t205 _ A4.out).mono ?_); rintro e w9 ⟨rfl, hb⟩; refine ⟨_, rfl, ?_⟩; have n0_ := Aside0.mk (blk_below (g := gb203) kA hb); have n1_ := Aside0.mk (below_step bA hb); clear BK203 HB; have BK203 := n0_; have HB := n1_; clear n0_ n1_; (try clear hb)))
  go_ret
  exact ⟨by first | rfl | (simp [errW_none, errW_some] <;> rfl) | (simp [*, errW_none, errW_some] <;> rfl), bA⟩
 ·rw [if_neg c3] at H
  have c3b0 : (t204 == 0) = false := beq_eq_false_iff_ne.mpr c3
  have c3b1 : (t204 != 0) = true := bne_iff_ne.mpr c3
  obtain rfl := Option.some.inj H
  go_enter Tryd.func20, Tryd.ntmps20
  go_wp2_with (first | ((with_reducible refine gate_dst (N := 1) rfl ?_); refine bxA 1 #[.int .i64 a0_0, .int .i64 a0_1, .int .i64 a0_2, .int .i64 a0_3, .int .i64 a0_4, .int .i64 a0_5, .int .i64 a0_6, .int .i64 a0_7] 23 ?_; intro gb203 hg w10 hbox hb; have n0_ := Aside0.mk (below_step bA hb); have n1_ := Aside0.mk (hbox); have n2_ := Aside0.mk (gwA hg bA); have n3_ := Aside0.mk (gwA hg bA); clear HB; have HB := n0_; have BK203 := n1_; have GW203 := n2_; have GE203 := n3_; clear n0_ n1_ n2_ n3_ hb hbox hg; have hcz11_0 : w10.cell? ⟨gb203, 0, none⟩ = some (.int .i64 a0_0) := (blk_cell BK203.out 0).trans rfl; have hcz11_1 : w10.cell? ⟨gb203, 1, none⟩ = some (.int .i64 a0_1) := (blk_cell BK203.out 1).trans rfl; have hcz11_2 : w10.cell? ⟨gb203, 2, none⟩ = some (.int .i64 a0_2) := (blk_cell BK203.out 2).trans rfl; have hcz11_3 : w10.cell? ⟨gb203, 3, none⟩ = some (.int .i64 a0_3) := (blk_cell BK203.out 3).trans rfl; have hcz11_4 : w10.cell? ⟨gb203, 4, none⟩ = some (.int .i64 a0_4) := (blk_cell BK203.out 4).trans rfl; have hcz11_5 : w10.cell? ⟨gb203, 5, none⟩ = some (.int .i64 a0_5) := (blk_cell BK203.out 5).trans rfl; have hcz11_6 : w10.cell? ⟨gb203, 6, none⟩ = some (.int .i64 a0_6) := (blk_cell BK203.out 6).trans rfl; have hcz11_7 : w10.cell? ⟨gb203, 7, none⟩ = some (.int .i64 a0_7) := (blk_cell BK203.out 7).trans rfl; have hfz11_0 := blk_frozen BK203.out 0; have hfz11_1 := blk_frozen BK203.out 1; have hfz11_2 := blk_frozen BK203.out 2; have hfz11_3 := blk_frozen BK203.out 3; have hfz11_4 := blk_frozen BK203.out 4; have hfz11_5 := blk_frozen BK203.out 5; have hfz11_6 := blk_frozen BK203.out 6; have hfz11_7 := blk_frozen BK203.out 7) | ((with_reducible refine gate_callee (f := 18) rfl ?_); refine goesL_ (some 4) rfl rfl Tryd.func18 (by kernel_rfl) rfl #[.agg #[.int .i64 a0_0, .int .i64 a0_1, .int .i64 a0_2, .int .i64 a0_3, .int .i64 a0_4, .int .i64 a0_5, .int .i64 a0_6, .int .i64 a0_7]] rfl aA ?_; (with_reducible refine (config_Check.calls k a0_0 a0_1 a0_2 a0_3 a0_4 a0_5 a0_6 a0_7 t204 _ A2.out).mono ?_); rintro e w12 ⟨rfl, hb⟩; refine ⟨_, rfl, ?_⟩; have n0_ := Aside0.mk (blk_below (g := gb203) kA hb); have n1_ := Aside0.mk (below_step bA hb); clear BK203 HB; have BK203 := n0_; have HB := n1_; clear n0_ n1_; (try clear hb)))
  go_ret
  exact ⟨by first | rfl | (simp [errW_none, errW_some] <;> rfl) | (simp [*, errW_none, errW_some] <;> rfl), bA⟩

/-! ### bits_Len64: function 84 -/
def bits_Len64.j0 : Nat → Int → Int → Option (Int)
 | 0, _, _ => none
 | k + 1, x0, x2 => if x0 ≥ 65536 then (if (x0 / 65536) ≥ 256 then (if 0 ≤ (((x0 / 65536) / 256) % 256) then (if (((x0 / 65536) / 256) % 256) < 256 then (some (wrap64 ((wrap64 ((wrap64 (x2 + 16)) + 8)) + (wrap64 (bt (⟨#[0, 1, 2, 2, 3, 3, 3, 3, 4, 4, 4, 4, 4, 4, 4, 4, 5, 5, 5, 5, 5, 5, 5, 5, 5, 5, 5, 5, 5, 5, 5, 5, 6, 6, 6, 6, 6, 6, 6, 6, 6, 6, 6, 6, 6, 6, 6, 6, 6, 6, 6, 6, 6, 6, 6, 6, 6, 6, 6, 6, 6, 6, 6, 6, 7, 7, 7, 7, 7, 7, 7, 7, 7, 7, 7, 7, 7, 7, 7, 7, 7, 7, 7, 7, 7, 7, 7, 7, 7, 7, 7, 7, 7, 7, 7, 7, 7, 7, 7, 7, 7, 7, 7, 7, 7, 7, 7, 7, 7, 7, 7, 7, 7, 7, 7, 7, 7, 7, 7, 7, 7, 7, 7, 7, 7, 7, 7, 7, 8, 8, 8, 8, 8, 8, 8, 8, 8, 8, 8, 8, 8, 8, 8, 8, 8, 8, 8, 8, 8, 8, 8, 8, 8, 8, 8, 8, 8, 8, 8, 8, 8, 8, 8, 8, 8, 8, 8, 8, 8, 8, 8, 8, 8, 8, 8, 8, 8, 8, 8, 8, 8, 8, 8, 8, 8, 8, 8, 8, 8, 8, 8, 8, 8, 8, 8, 8, 8, 8, 8, 8, 8, 8, 8, 8, 8, 8, 8, 8, 8, 8, 8, 8, 8, 8, 8, 8, 8, 8, 8, 8, 8, 8, 8, 8, 8, 8, 8, 8, 8, 8, 8, 8, 8, 8, 8, 8, 8, 8, 8, 8, 8, 8, 8, 8, 8, 8, 8, 8, 8, 8, 8, 8, 8, 8, 8, 8]⟩ : ByteArray) (((x0 / 65536) / 256) % 256)))))) else (none)) else (none)) else (if 0 ≤ ((x0 / 65536) % 256) then (if ((x0 / 65536) % 256) < 256 then (some (wrap64 ((wrap64 (x2 + 16)) + (wrap64 (bt (⟨#[0, 1, 2, 2, 3, 3, 3, 3, 4, 4, 4, 4, 4, 4, 4, 4, 5, 5, 5, 5, 5, 5, 5, 5, 5, 5, 5, 5, 5, 5, 5, 5, 6, 6, 6, 6, 6, 6, 6, 6, 6, 6, 6, 6, 6, 6, 6, 6, 6, 6, 6, 6, 6, 6, 6, 6, 6, 6, 6, 6, 6, 6, 6, 6, 7, 7, 7, 7, 7, 7, 7, 7, 7, 7, 7, 7, 7, 7, 7, 7, 7, 7, 7, 7, 7, 7, 7, 7, 7, 7, 7, 7, 7, 7, 7, 7, 7, 7, 7, 7, 7, 7, 7, 7, 7, 7, 7, 7, 7, 7, 7, 7, 7, 7, 7, 7, 7, 7, 7, 7, 7, 7, 7, 7, 7, 7, 7, 7, 8, 8, 8, 8, 8, 8, 8, 8, 8, 8, 8, 8, 8, 8, 8, 8, 8, 8, 8, 8, 8, 8, 8, 8, 8, 8, 8, 8, 8, 8, 8, 8, 8, 8, 8, 8, 8, 8, 8, 8, 8, 8, 8, 8, 8, 8, 8, 8, 8, 8, 8, 8, 8, 8, 8, 8, 8, 8, 8, 8, 8, 8, 8, 8, 8, 8, 8, 8, 8, 8, 8, 8, 8, 8, 8, 8, 8, 8, 8, 8, 8, 8, 8, 8, 8, 8, 8, 8, 8, 8, 8, 8, 8, 8, 8, 8, 8, 8, 8, 8, 8, 8, 8, 8, 8, 8, 8, 8, 8, 8, 8, 8, 8, 8, 8, 8, 8, 8, 8, 8, 8, 8, 8, 8, 8, 8, 8, 8]⟩ : ByteArray) ((x0 / 65536) % 256)))))) else (none)) else (none))) else (if x0 ≥ 256 then (if 0 ≤ ((x0 / 256) % 256) then (if ((x0 / 256) % 256) < 256 then (some (wrap64 ((wrap64 (x2 + 8)) + (wrap64 (bt (⟨#[0, 1, 2, 2, 3, 3, 3, 3, 4, 4, 4, 4, 4, 4, 4, 4, 5, 5, 5, 5, 5, 5, 5, 5, 5, 5, 5, 5, 5, 5, 5, 5, 6, 6, 6, 6, 6, 6, 6, 6, 6, 6, 6, 6, 6, 6, 6, 6, 6, 6, 6, 6, 6, 6, 6, 6, 6, 6, 6, 6, 6, 6, 6, 6, 7, 7, 7, 7, 7, 7, 7, 7, 7, 7, 7, 7, 7, 7, 7, 7, 7, 7, 7, 7, 7, 7, 7, 7, 7, 7, 7, 7, 7, 7, 7, 7, 7, 7, 7, 7, 7, 7, 7, 7, 7, 7, 7, 7, 7, 7, 7, 7, 7, 7, 7, 7, 7, 7, 7, 7, 7, 7, 7, 7, 7, 7, 7, 7, 8, 8, 8, 8, 8, 8, 8, 8, 8, 8, 8, 8, 8, 8, 8, 8, 8, 8, 8, 8, 8, 8, 8, 8, 8, 8, 8, 8, 8, 8, 8, 8, 8, 8, 8, 8, 8, 8, 8, 8, 8, 8, 8, 8, 8, 8, 8, 8, 8, 8, 8, 8, 8, 8, 8, 8, 8, 8, 8, 8, 8, 8, 8, 8, 8, 8, 8, 8, 8, 8, 8, 8, 8, 8, 8, 8, 8, 8, 8, 8, 8, 8, 8, 8, 8, 8, 8, 8, 8, 8, 8, 8, 8, 8, 8, 8, 8, 8, 8, 8, 8, 8, 8, 8, 8, 8, 8, 8, 8, 8, 8, 8, 8, 8, 8, 8, 8, 8, 8, 8, 8, 8, 8, 8, 8, 8, 8, 8]⟩ : ByteArray) ((x0 / 256) % 256)))))) else (none)) else (none)) else (if 0 ≤ ((x0) % 256) then (if ((x0) % 256) < 256 then (some (wrap64 (x2 + (wrap64 (bt (⟨#[0, 1, 2, 2, 3, 3, 3, 3, 4, 4, 4, 4, 4, 4, 4, 4, 5, 5, 5, 5, 5, 5, 5, 5, 5, 5, 5, 5, 5, 5, 5, 5, 6, 6, 6, 6, 6, 6, 6, 6, 6, 6, 6, 6, 6, 6, 6, 6, 6, 6, 6, 6, 6, 6, 6, 6, 6, 6, 6, 6, 6, 6, 6, 6, 7, 7, 7, 7, 7, 7, 7, 7, 7, 7, 7, 7, 7, 7, 7, 7, 7, 7, 7, 7, 7, 7, 7, 7, 7, 7, 7, 7, 7, 7, 7, 7, 7, 7, 7, 7, 7, 7, 7, 7, 7, 7, 7, 7, 7, 7, 7, 7, 7, 7, 7, 7, 7, 7, 7, 7, 7, 7, 7, 7, 7, 7, 7, 7, 8, 8, 8, 8, 8, 8, 8, 8, 8, 8, 8, 8, 8, 8, 8, 8, 8, 8, 8, 8, 8, 8, 8, 8, 8, 8, 8, 8, 8, 8, 8, 8, 8, 8, 8, 8, 8, 8, 8, 8, 8, 8, 8, 8, 8, 8, 8, 8, 8, 8, 8, 8, 8, 8, 8, 8, 8, 8, 8, 8, 8, 8, 8, 8, 8, 8, 8, 8, 8, 8, 8, 8, 8, 8, 8, 8, 8, 8, 8, 8, 8, 8, 8, 8, 8, 8, 8, 8, 8, 8, 8, 8, 8, 8, 8, 8, 8, 8, 8, 8, 8, 8, 8, 8, 8, 8, 8, 8, 8, 8, 8, 8, 8, 8, 8, 8, 8, 8, 8, 8, 8, 8, 8, 8, 8, 8, 8, 8]⟩ : ByteArray) ((x0) % 256)))))) else (none)) else (none)))
def bits_Len64.f (k : Nat) (a0 : Int) : Option (Int) := if a0 ≥ 4294967296 then (bits_Len64.j0 k (a0 / 4294967296) 32) else (bits_Len64.j0 k a0 0)
theorem bits_Len64.mono_l : ∀ k, (∀ y0 y1, LeO (bits_Len64.j0 k y0 y1) (bits_Len64.j0 (k + 1) y0 y1))
 | 0 => fun _ _ r h => by simp [bits_Len64.j0] at h
 | k + 1 => by
  have ih0 := bits_Len64.mono_l k
  ·intro y0 y1
   unfold bits_Len64.j0
   repeat' first
   | (with_reducible exact ih0 _ _)
   | (with_reducible exact LeO.refl _)
   | (with_reducible exact LeO.none _)
   | (with_reducible refine LeO.ite ?_ ?_)
   | (with_reducible refine LeO.bind ?_ (fun _ => ?_))
   | exact ih0 _ _
   | exact LeO.none _
   | refine LeO.ite ?_ ?_
   | refine LeO.bind ?_ (fun _ => ?_)
theorem bits_Len64.mono : ∀ a0 k, LeO (bits_Len64.f k a0) (bits_Len64.f (k + 1) a0) := by
 intro a0 k
 have ih0 := bits_Len64.mono_l k
 unfold bits_Len64.f
 repeat' first
   | (with_reducible exact ih0 _ _)
   | (with_reducible exact LeO.refl _)
   | (with_reducible exact LeO.none _)
   | (with_reducible refine LeO.ite ?_ ?_)
   | (with_reducible refine LeO.bind ?_ (fun _ => ?_))
   | exact ih0 _ _
   | exact LeO.none _
   | refine LeO.ite ?_ ?_
   | refine LeO.bind ?_ (fun _ => ?_)
set_option maxHeartbeats 8000000 in
set_option maxRecDepth 100000 in
theorem bits_Len64.calls (k : Nat) (a0 : Int) (r : Int) (w : World) (h : bits_Len64.f k a0 = some r) :
  Calls Tryd.prog 84 #[.int .u64 a0] w fun e w' => e = .returned (.int .i64 r) ∧ Drawn0 w w' := by
 have H : (if a0 ≥ 4294967296 then (bits_Len64.j0 k (a0 / 4294967296) 32) else (bits_Len64.j0 k a0 0)) = some r := h
 clear h
 have HC2 := Aside0.mk H
 clear H
 go_enter Tryd.func84, Tryd.ntmps84
 go_upto_if 4 with (fail)
 go_cut [0, 2] (fun v0 v2 wc => ∃ (kq : Nat) (x0_1 : Int) (x2_1 : Int), v0 = .int .u64 x0_1 ∧ v2 = .int .i64 x2_1 ∧ Aside0 (bits_Len64.j0 kq x0_1 x2_1 = some r) ∧ Aside0 (kq ≤ k) ∧ Drawn0 w wc)
 case first =>
  have H := HC2.out
  clear HC2
  by_cases c3 : a0 ≥ 4294967296
  ·rw [if_pos c3] at H
   have c3b0 : decide (4294967296 ≤ a0) = true := decide_eq_true c3
   clear c3
   (first | rw [c3b0] | (simp only [i64_w, i32_w]; rw [c3b0]) | skip)
   have H' := Aside0.mk H
   clear H
   go_wp2
   go_meet
   case rel => exact ⟨_, (a0 / 4294967296), (32), (by first | rfl | (simp; done) | (simp [*]; done)), (by first | rfl | (simp; done) | (simp [*]; done)), H', ⟨by first | omega | exact Nat.le_refl _⟩, by repeat (first | exact Drawn0.refl _ | apply Drawn0.step)⟩
  ·rw [if_neg c3] at H
   have c3b0 : decide (4294967296 ≤ a0) = false := decide_eq_false c3
   clear c3
   (first | rw [c3b0] | (simp only [i64_w, i32_w]; rw [c3b0]) | skip)
   have H' := Aside0.mk H
   clear H
   go_wp2
   go_meet
   case rel => exact ⟨_, (a0), (0), (by first | rfl | (simp; done) | (simp [*]; done)), (by first | rfl | (simp; done) | (simp [*]; done)), H', ⟨by first | omega | exact Nat.le_refl _⟩, by repeat (first | exact Drawn0.refl _ | apply Drawn0.step)⟩
 case rest =>
  clear HC2
  try clear p2
  try clear c3
  try clear c3b0
  obtain ⟨kq, x0_1, x2_1, rfl, rfl, HA, HJ1, ⟨mc1, rfl⟩⟩ := hcut
  cases kq with
  | zero => exact absurd HA.out (by simp [bits_Len64.j0])
  | succ kj1 =>
   have H := HA.out
   clear HA
   simp only [bits_Len64.j0] at H
   by_cases c4 : x0_1 ≥ 65536
   ·rw [if_pos c4] at H
    have c4b0 : decide (65536 ≤ x0_1) = true := decide_eq_true c4
    clear c4
    by_cases c5 : (x0_1 / 65536) ≥ 256
    ·rw [if_pos c5] at H
     have c5b0 : decide (256 ≤ (x0_1 / 65536)) = true := decide_eq_true c5
     clear c5
     obtain ⟨ji6, hji6⟩ : ∃ j_ : Int, (((x0_1 / 65536) / 256) % 256) = j_ := ⟨_, rfl⟩
     replace H : (if 0 ≤ (ji6) then (if (ji6) < 256 then (some (wrap64 ((wrap64 ((wrap64 (x2_1 + 16)) + 8)) + (wrap64 (bt (⟨#[0, 1, 2, 2, 3, 3, 3, 3, 4, 4, 4, 4, 4, 4, 4, 4, 5, 5, 5, 5, 5, 5, 5, 5, 5, 5, 5, 5, 5, 5, 5, 5, 6, 6, 6, 6, 6, 6, 6, 6, 6, 6, 6, 6, 6, 6, 6, 6, 6, 6, 6, 6, 6, 6, 6, 6, 6, 6, 6, 6, 6, 6, 6, 6, 7, 7, 7, 7, 7, 7, 7, 7, 7, 7, 7, 7, 7, 7, 7, 7, 7, 7, 7, 7, 7, 7, 7, 7, 7, 7, 7, 7, 7, 7, 7, 7, 7, 7, 7, 7, 7, 7, 7, 7, 7, 7, 7, 7, 7, 7, 7, 7, 7, 7, 7, 7, 7, 7, 7, 7, 7, 7, 7, 7, 7, 7, 7, 7, 8, 8, 8, 8, 8, 8, 8, 8, 8, 8, 8, 8, 8, 8, 8, 8, 8, 8, 8, 8, 8, 8, 8, 8, 8, 8, 8, 8, 8, 8, 8, 8, 8, 8, 8, 8, 8, 8, 8, 8, 8, 8, 8, 8, 8, 8, 8, 8, 8, 8, 8, 8, 8, 8, 8, 8, 8, 8, 8, 8, 8, 8, 8, 8, 8, 8, 8, 8, 8, 8, 8, 8, 8, 8, 8, 8, 8, 8, 8, 8, 8, 8, 8, 8, 8, 8, 8, 8, 8, 8, 8, 8, 8, 8, 8, 8, 8, 8, 8, 8, 8, 8, 8, 8, 8, 8, 8, 8, 8, 8, 8, 8, 8, 8, 8, 8, 8, 8, 8, 8, 8, 8, 8, 8, 8, 8, 8, 8]⟩ : ByteArray) (ji6)))))) else (none)) else (none)) = some r := by first | (rw [hji6] at H; exact H) | (simp only [hji6] at H ⊢; exact H)
     by_cases c7 : 0 ≤ (ji6)
     ·rw [if_pos c7] at H
      have c7b0 : decide (0 ≤ (ji6)) = true := decide_eq_true c7
      clear c7
      by_cases c8 : (ji6) < 256
      ·rw [if_pos c8] at H
       have c8b0 : decide ((ji6) < 256) = true := decide_eq_true c8
       clear c8
       obtain rfl := Option.some.inj H
       have p9 : 0 ≤ ((ji6) : Int) := of_decide_eq_true (by first | (with_reducible assumption) | assumption)
       have q9 : (ji6) < (256 : Int) := of_decide_eq_true (by first | (with_reducible assumption) | assumption)
       have hx9 := bt_at (⟨#[0, 1, 2, 2, 3, 3, 3, 3, 4, 4, 4, 4, 4, 4, 4, 4, 5, 5, 5, 5, 5, 5, 5, 5, 5, 5, 5, 5, 5, 5, 5, 5, 6, 6, 6, 6, 6, 6, 6, 6, 6, 6, 6, 6, 6, 6, 6, 6, 6, 6, 6, 6, 6, 6, 6, 6, 6, 6, 6, 6, 6, 6, 6, 6, 7, 7, 7, 7, 7, 7, 7, 7, 7, 7, 7, 7, 7, 7, 7, 7, 7, 7, 7, 7, 7, 7, 7, 7, 7, 7, 7, 7, 7, 7, 7, 7, 7, 7, 7, 7, 7, 7, 7, 7, 7, 7, 7, 7, 7, 7, 7, 7, 7, 7, 7, 7, 7, 7, 7, 7, 7, 7, 7, 7, 7, 7, 7, 7, 8, 8, 8, 8, 8, 8, 8, 8, 8, 8, 8, 8, 8, 8, 8, 8, 8, 8, 8, 8, 8, 8, 8, 8, 8, 8, 8, 8, 8, 8, 8, 8, 8, 8, 8, 8, 8, 8, 8, 8, 8, 8, 8, 8, 8, 8, 8, 8, 8, 8, 8, 8, 8, 8, 8, 8, 8, 8, 8, 8, 8, 8, 8, 8, 8, 8, 8, 8, 8, 8, 8, 8, 8, 8, 8, 8, 8, 8, 8, 8, 8, 8, 8, 8, 8, 8, 8, 8, 8, 8, 8, 8, 8, 8, 8, 8, 8, 8, 8, 8, 8, 8, 8, 8, 8, 8, 8, 8, 8, 8, 8, 8, 8, 8, 8, 8, 8, 8, 8, 8, 8, 8, 8, 8, 8, 8, 8, 8]⟩ : ByteArray) (ji6)
       replace p9 := eq_true p9
       replace q9 := eq_true q9
       go_wp2
       go_ret
       exact ⟨by first | rfl | (simp; done) | (simp only [← hji6] <;> (first | rfl | simp)) | (simp [*]; done), by repeat (first | exact Drawn0.refl _ | apply Drawn0.step)⟩
      ·rw [if_neg c8] at H
       exact absurd H (by simp)
     ·rw [if_neg c7] at H
      exact absurd H (by simp)
    ·rw [if_neg c5] at H
     have c5b0 : decide (256 ≤ (x0_1 / 65536)) = false := decide_eq_false c5
     clear c5
     obtain ⟨ji10, hji10⟩ : ∃ j_ : Int, ((x0_1 / 65536) % 256) = j_ := ⟨_, rfl⟩
     replace H : (if 0 ≤ (ji10) then (if (ji10) < 256 then (some (wrap64 ((wrap64 (x2_1 + 16)) + (wrap64 (bt (⟨#[0, 1, 2, 2, 3, 3, 3, 3, 4, 4, 4, 4, 4, 4, 4, 4, 5, 5, 5, 5, 5, 5, 5, 5, 5, 5, 5, 5, 5, 5, 5, 5, 6, 6, 6, 6, 6, 6, 6, 6, 6, 6, 6, 6, 6, 6, 6, 6, 6, 6, 6, 6, 6, 6, 6, 6, 6, 6, 6, 6, 6, 6, 6, 6, 7, 7, 7, 7, 7, 7, 7, 7, 7, 7, 7, 7, 7, 7, 7, 7, 7, 7, 7, 7, 7, 7, 7, 7, 7, 7, 7, 7, 7, 7, 7, 7, 7, 7, 7, 7, 7, 7, 7, 7, 7, 7, 7, 7, 7, 7, 7, 7, 7, 7, 7, 7, 7, 7, 7, 7, 7, 7, 7, 7, 7, 7, 7, 7, 8, 8, 8, 8, 8, 8, 8, 8, 8, 8, 8, 8, 8, 8, 8, 8, 8, 8, 8, 8, 8, 8, 8, 8, 8, 8, 8, 8, 8, 8, 8, 8, 8, 8, 8, 8, 8, 8, 8, 8, 8, 8, 8, 8, 8, 8, 8, 8, 8, 8, 8, 8, 8, 8, 8, 8, 8, 8, 8, 8, 8, 8, 8, 8, 8, 8, 8, 8, 8, 8, 8, 8, 8, 8, 8, 8, 8, 8, 8, 8, 8, 8, 8, 8, 8, 8, 8, 8, 8, 8, 8, 8, 8, 8, 8, 8, 8, 8, 8, 8, 8, 8, 8, 8, 8, 8, 8, 8, 8, 8, 8, 8, 8, 8, 8, 8, 8, 8, 8, 8, 8, 8, 8, 8, 8, 8, 8, 8]⟩ : ByteArray) (ji10)))))) else (none)) else (none)) = some r := by first | (rw [hji10] at H; exact H) | (simp only [hji10] at H ⊢; exact H)
     by_cases c11 : 0 ≤ (ji10)
     ·rw [if_pos c11] at H
      have c11b0 : decide (0 ≤ (ji10)) = true := decide_eq_true c11
      clear c11
      by_cases c12 : (ji10) < 256
      ·rw [if_pos c12] at H
       have c12b0 : decide ((ji10) < 256) = true := decide_eq_true c12
       clear c12
       obtain rfl := Option.some.inj H
       have p13 : 0 ≤ ((ji10) : Int) := of_decide_eq_true (by first | (with_reducible assumption) | assumption)
       have q13 : (ji10) < (256 : Int) := of_decide_eq_true (by first | (with_reducible assumption) | assumption)
       have hx13 := bt_at (⟨#[0, 1, 2, 2, 3, 3, 3, 3, 4, 4, 4, 4, 4, 4, 4, 4, 5, 5, 5, 5, 5, 5, 5, 5, 5, 5, 5, 5, 5, 5, 5, 5, 6, 6, 6, 6, 6, 6, 6, 6, 6, 6, 6, 6, 6, 6, 6, 6, 6, 6, 6, 6, 6, 6, 6, 6, 6, 6, 6, 6, 6, 6, 6, 6, 7, 7, 7, 7, 7, 7, 7, 7, 7, 7, 7, 7, 7, 7, 7, 7, 7, 7, 7, 7, 7, 7, 7, 7, 7, 7, 7, 7, 7, 7, 7, 7, 7, 7, 7, 7, 7, 7, 7, 7, 7, 7, 7, 7, 7, 7, 7, 7, 7, 7, 7, 7, 7, 7, 7, 7, 7, 7, 7, 7, 7, 7, 7, 7, 8, 8, 8, 8, 8, 8, 8, 8, 8, 8, 8, 8, 8, 8, 8, 8, 8, 8, 8, 8, 8, 8, 8, 8, 8, 8, 8, 8, 8, 8, 8, 8, 8, 8, 8, 8, 8, 8, 8, 8, 8, 8, 8, 8, 8, 8, 8, 8, 8, 8, 8, 8, 8, 8, 8, 8, 8, 8, 8, 8, 8, 8, 8, 8, 8, 8, 8, 8, 8, 8, 8, 8, 8, 8, 8, 8, 8, 8, 8, 8, 8, 8, 8, 8, 8, 8, 8, 8, 8, 8, 8, 8, 8, 8, 8, 8, 8, 8, 8, 8, 8, 8, 8, 8, 8, 8, 8, 8, 8, 8, 8, 8, 8, 8, 8, 8, 8, 8, 8, 8, 8, 8, 8, 8, 8, 8, 8, 8]⟩ : ByteArray) (ji10)
       replace p13 := eq_true p13
       replace q13 := eq_true q13
       go_wp2
       go_ret
       exact ⟨by first | rfl | (simp; done) | (simp only [← hji10] <;> (first | rfl | simp)) | (simp [*]; done), by repeat (first | exact Drawn0.refl _ | apply Drawn0.step)⟩
      ·rw [if_neg c12] at H
       exact absurd H (by simp)
     ·rw [if_neg c11] at H
      exact absurd H (by simp)
   ·rw [if_neg c4] at H
    have c4b0 : decide (65536 ≤ x0_1) = false := decide_eq_false c4
    clear c4
    by_cases c14 : x0_1 ≥ 256
    ·rw [if_pos c14] at H
     have c14b0 : decide (256 ≤ x0_1) = true := decide_eq_true c14
     clear c14
     obtain ⟨ji15, hji15⟩ : ∃ j_ : Int, ((x0_1 / 256) % 256) = j_ := ⟨_, rfl⟩
     replace H : (if 0 ≤ (ji15) then (if (ji15) < 256 then (some (wrap64 ((wrap64 (x2_1 + 8)) + (wrap64 (bt (⟨#[0, 1, 2, 2, 3, 3, 3, 3, 4, 4, 4, 4, 4, 4, 4, 4, 5, 5, 5, 5, 5, 5, 5, 5, 5, 5, 5, 5, 5, 5, 5, 5, 6, 6, 6, 6, 6, 6, 6, 6, 6, 6, 6, 6, 6, 6, 6, 6, 6, 6, 6, 6, 6, 6, 6, 6, 6, 6, 6, 6, 6, 6, 6, 6, 7, 7, 7, 7, 7, 7, 7, 7, 7, 7, 7, 7, 7, 7, 7, 7, 7, 7, 7, 7, 7, 7, 7, 7, 7, 7, 7, 7, 7, 7, 7, 7, 7, 7, 7, 7, 7, 7, 7, 7, 7, 7, 7, 7, 7, 7, 7, 7, 7, 7, 7, 7, 7, 7, 7, 7, 7, 7, 7, 7, 7, 7, 7, 7, 8, 8, 8, 8, 8, 8, 8, 8, 8, 8, 8, 8, 8, 8, 8, 8, 8, 8, 8, 8, 8, 8, 8, 8, 8, 8, 8, 8, 8, 8, 8, 8, 8, 8, 8, 8, 8, 8, 8, 8, 8, 8, 8, 8, 8, 8, 8, 8, 8, 8, 8, 8, 8, 8, 8, 8, 8, 8, 8, 8, 8, 8, 8, 8, 8, 8, 8, 8, 8, 8, 8, 8, 8, 8, 8, 8, 8, 8, 8, 8, 8, 8, 8, 8, 8, 8, 8, 8, 8, 8, 8, 8, 8, 8, 8, 8, 8, 8, 8, 8, 8, 8, 8, 8, 8, 8, 8, 8, 8, 8, 8, 8, 8, 8, 8, 8, 8, 8, 8, 8, 8, 8, 8, 8, 8, 8, 8, 8]⟩ : ByteArray) (ji15)))))) else (none)) else (none)) = some r := by first | (rw [hji15] at H; exact H) | (simp only [hji15] at H ⊢; exact H)
     by_cases c16 : 0 ≤ (ji15)
     ·rw [if_pos c16] at H
      have c16b0 : decide (0 ≤ (ji15)) = true := decide_eq_true c16
      clear c16
      by_cases c17 : (ji15) < 256
      ·rw [if_pos c17] at H
       have c17b0 : decide ((ji15) < 256) = true := decide_eq_true c17
       clear c17
       obtain rfl := Option.some.inj H
       have p18 : 0 ≤ ((ji15) : Int) := of_decide_eq_true (by first | (with_reducible assumption) | assumption)
       have q18 : (ji15) < (256 : Int) := of_decide_eq_true (by first | (with_reducible assumption) | assumption)
       have hx18 := bt_at (⟨#[0, 1, 2, 2, 3, 3, 3, 3, 4, 4, 4, 4, 4, 4, 4, 4, 5, 5, 5, 5, 5, 5, 5, 5, 5, 5, 5, 5, 5, 5, 5, 5, 6, 6, 6, 6, 6, 6, 6, 6, 6, 6, 6, 6, 6, 6, 6, 6, 6, 6, 6, 6, 6, 6, 6, 6, 6, 6, 6, 6, 6, 6, 6, 6, 7, 7, 7, 7, 7, 7, 7, 7, 7, 7, 7, 7, 7, 7, 7, 7, 7, 7, 7, 7, 7, 7, 7, 7, 7, 7, 7, 7, 7, 7, 7, 7, 7, 7, 7, 7, 7, 7, 7, 7, 7, 7, 7, 7, 7, 7, 7, 7, 7, 7, 7, 7, 7, 7, 7, 7, 7, 7, 7, 7, 7, 7, 7, 7, 8, 8, 8, 8, 8, 8, 8, 8, 8, 8, 8, 8, 8, 8, 8, 8, 8, 8, 8, 8, 8, 8, 8, 8, 8, 8, 8, 8, 8, 8, 8, 8, 8, 8, 8, 8, 8, 8, 8, 8, 8, 8, 8, 8, 8, 8, 8, 8, 8, 8, 8, 8, 8, 8, 8, 8, 8, 8, 8, 8, 8, 8, 8, 8, 8, 8, 8, 8, 8, 8, 8, 8, 8, 8, 8, 8, 8, 8, 8, 8, 8, 8, 8, 8, 8, 8, 8, 8, 8, 8, 8, 8, 8, 8, 8, 8, 8, 8, 8, 8, 8, 8, 8, 8, 8, 8, 8, 8, 8, 8, 8, 8, 8, 8, 8, 8, 8, 8, 8, 8, 8, 8, 8, 8, 8, 8, 8, 8]⟩ : ByteArray) (ji15)
       replace p18 := eq_true p18
       replace q18 := eq_true q18
       go_wp2
       go_ret
       exact ⟨by first | rfl | (simp; done) | (simp only [← hji15] <;> (first | rfl | simp)) | (simp [*]; done), by repeat (first | exact Drawn0.refl _ | apply Drawn0.step)⟩
      ·rw [if_neg c17] at H
       exact absurd H (by simp)
     ·rw [if_neg c16] at H
      exact absurd H (by simp)
    ·rw [if_neg c14] at H
     have c14b0 : decide (256 ≤ x0_1) = false := decide_eq_false c14
     clear c14
     obtain ⟨ji19, hji19⟩ : ∃ j_ : Int, ((x0_1) % 256) = j_ := ⟨_, rfl⟩
     replace H : (if 0 ≤ (ji19) then (if (ji19) < 256 then (some (wrap64 (x2_1 + (wrap64 (bt (⟨#[0, 1, 2, 2, 3, 3, 3, 3, 4, 4, 4, 4, 4, 4, 4, 4, 5, 5, 5, 5, 5, 5, 5, 5, 5, 5, 5, 5, 5, 5, 5, 5, 6, 6, 6, 6, 6, 6, 6, 6, 6, 6, 6, 6, 6, 6, 6, 6, 6, 6, 6, 6, 6, 6, 6, 6, 6, 6, 6, 6, 6, 6, 6, 6, 7, 7, 7, 7, 7, 7, 7, 7, 7, 7, 7, 7, 7, 7, 7, 7, 7, 7, 7, 7, 7, 7, 7, 7, 7, 7, 7, 7, 7, 7, 7, 7, 7, 7, 7, 7, 7, 7, 7, 7, 7, 7, 7, 7, 7, 7, 7, 7, 7, 7, 7, 7, 7, 7, 7, 7, 7, 7, 7, 7, 7, 7, 7, 7, 8, 8, 8, 8, 8, 8, 8, 8, 8, 8, 8, 8, 8, 8, 8, 8, 8, 8, 8, 8, 8, 8, 8, 8, 8, 8, 8, 8, 8, 8, 8, 8, 8, 8, 8, 8, 8, 8, 8, 8, 8, 8, 8, 8, 8, 8, 8, 8, 8, 8, 8, 8, 8, 8, 8, 8, 8, 8, 8, 8, 8, 8, 8, 8, 8, 8, 8, 8, 8, 8, 8, 8, 8, 8, 8, 8, 8, 8, 8, 8, 8, 8, 8, 8, 8, 8, 8, 8, 8, 8, 8, 8, 8, 8, 8, 8, 8, 8, 8, 8, 8, 8, 8, 8, 8, 8, 8, 8, 8, 8, 8, 8, 8, 8, 8, 8, 8, 8, 8, 8, 8, 8, 8, 8, 8, 8, 8, 8]⟩ : ByteArray) (ji19)))))) else (none)) else (none)) = some r := by first | (rw [hji19] at H; exact H) | (simp only [hji19] at H ⊢; exact H)
     by_cases c20 : 0 ≤ (ji19)
     ·rw [if_pos c20] at H
      have c20b0 : decide (0 ≤ (ji19)) = true := decide_eq_true c20
      clear c20
      by_cases c21 : (ji19) < 256
      ·rw [if_pos c21] at H
       have c21b0 : decide ((ji19) < 256) = true := decide_eq_true c21
       clear c21
       obtain rfl := Option.some.inj H
       have p22 : 0 ≤ ((ji19) : Int) := of_decide_eq_true (by first | (with_reducible assumption) | assumption)
       have q22 : (ji19) < (256 : Int) := of_decide_eq_true (by first | (with_reducible assumption) | assumption)
       have hx22 := bt_at (⟨#[0, 1, 2, 2, 3, 3, 3, 3, 4, 4, 4, 4, 4, 4, 4, 4, 5, 5, 5, 5, 5, 5, 5, 5, 5, 5, 5, 5, 5, 5, 5, 5, 6, 6, 6, 6, 6, 6, 6, 6, 6, 6, 6, 6, 6, 6, 6, 6, 6, 6, 6, 6, 6, 6, 6, 6, 6, 6, 6, 6, 6, 6, 6, 6, 7, 7, 7, 7, 7, 7, 7, 7, 7, 7, 7, 7, 7, 7, 7, 7, 7, 7, 7, 7, 7, 7, 7, 7, 7, 7, 7, 7, 7, 7, 7, 7, 7, 7, 7, 7, 7, 7, 7, 7, 7, 7, 7, 7, 7, 7, 7, 7, 7, 7, 7, 7, 7, 7, 7, 7, 7, 7, 7, 7, 7, 7, 7, 7, 8, 8, 8, 8, 8, 8, 8, 8, 8, 8, 8, 8, 8, 8, 8, 8, 8, 8, 8, 8, 8, 8, 8, 8, 8, 8, 8, 8, 8, 8, 8, 8, 8, 8, 8, 8, 8, 8, 8, 8, 8, 8, 8, 8, 8, 8, 8, 8, 8, 8, 8, 8, 8, 8, 8, 8, 8, 8, 8, 8, 8, 8, 8, 8, 8, 8, 8, 8, 8, 8, 8, 8, 8, 8, 8, 8, 8, 8, 8, 8, 8, 8, 8, 8, 8, 8, 8, 8, 8, 8, 8, 8, 8, 8, 8, 8, 8, 8, 8, 8, 8, 8, 8, 8, 8, 8, 8, 8, 8, 8, 8, 8, 8, 8, 8, 8, 8, 8, 8, 8, 8, 8, 8, 8, 8, 8, 8, 8]⟩ : ByteArray) (ji19)
       replace p22 := eq_true p22
       replace q22 := eq_true q22
       go_wp2
       go_ret
       exact ⟨by first | rfl | (simp; done) | (simp only [← hji19] <;> (first | rfl | simp)) | (simp [*]; done), by repeat (first | exact Drawn0.refl _ | apply Drawn0.step)⟩
      ·rw [if_neg c21] at H
       exact absurd H (by simp)
     ·rw [if_neg c20] at H
      exact absurd H (by simp)

/-! ### bits_LeadingZeros64: function 82 -/
def bits_LeadingZeros64.f (k : Nat) (a0 : Int) : Option (Int) := (bits_Len64.f k a0).bind fun t206 => (some (wrap64 (64 - t206)))
theorem bits_LeadingZeros64.mono : ∀ a0 k, LeO (bits_LeadingZeros64.f k a0) (bits_LeadingZeros64.f (k + 1) a0) := by
 intro a0 k
 unfold bits_LeadingZeros64.f
 repeat' first
   | (with_reducible exact bits_Len64.mono _ _)
   | (with_reducible exact LeO.refl _)
   | (with_reducible exact LeO.none _)
   | (with_reducible refine LeO.ite ?_ ?_)
   | (with_reducible refine LeO.bind ?_ (fun _ => ?_))
   | exact bits_Len64.mono _ _
   | exact LeO.none _
   | refine LeO.ite ?_ ?_
   | refine LeO.bind ?_ (fun _ => ?_)
set_option maxHeartbeats 8000000 in
set_option maxRecDepth 100000 in
theorem bits_LeadingZeros64.calls (k : Nat) (a0 : Int) (r : Int) (w : World) (h : bits_LeadingZeros64.f k a0 = some r) :
  Calls Tryd.prog 82 #[.int .u64 a0] w fun e w' => e = .returned (.int .i64 r) ∧ Drawn0 w w' := by
 have H : ((bits_Len64.f k a0).bind fun t206 => (some (wrap64 (64 - t206)))) = some r := h
 clear h; replace H := Option.bind_eq_some_iff.mp H; obtain ⟨t206, A20, H⟩ := H; replace H : (some (wrap64 (64 - t206))) = some r := H; have A2 := Aside0.mk A20; clear A20
 obtain rfl := Option.some.inj H
 go_enter Tryd.func82, Tryd.ntmps82
 go_wp2_with (first | ((with_reducible refine gate_callee (f := 84) rfl ?_); refine goesL_ (some 4) rfl rfl Tryd.func84 (by kernel_rfl) rfl #[.int .u64 a0] rfl aA ?_; (with_reducible refine (bits_Len64.calls k a0 t206 _ A2.out).mono ?_); rintro e w' ⟨rfl, ⟨nd, rfl⟩⟩; refine ⟨_, rfl, ?_⟩))
 go_ret
 exact ⟨by first | rfl | (simp; done) | (simp [*]; done), by repeat (first | exact Drawn0.refl _ | apply Drawn0.step)⟩

end Go.Proofs.YtbhijfbjdbjpbaaDoor.GSH
