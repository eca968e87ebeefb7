-- Laid by a program of this session (wip/tools/pr.py): contracts and pure functions; Lean checks it.
import Derived.Test.YtodibpddlibneaaGPTx0
import Derived.Test.YtodibpddlibneaaGPTx2
import Derived.Test.YtodibpddlibneaaGPTx3
import Derived.Test.YtodibpddlibneaaGPTx7
namespace Go.Proofs.Ytodibpddlibneaa.GPT
open Go.RowKit Go.Proofs.YtodibpddlibneaaW.PrintWords Go.Proofs.YtodibpddlibneaaW.PrintLast Go.Proofs.YtodibpddlibneaaW.PrintMore
attribute [local go_sem] max2_int min2_int max_two min_two max_three min_three max_four min_four   -- for this text's walks alone
set_option linter.unusedVariables false
set_option linter.unusedSimpArgs false

/-! ### config_Check: function 21 -/
def config_Check.f (k : Nat) (a0 a1 a2 a3 a4 a5 a6 a7 : Int) : Option Int := (config_asked_ranges.f k a0 a1 a2 a3 a4 a5 a6 a7).bind fun e1 => if e1 = 0 then ((config_asked_usage.f a0 a1 a2 a3 a4 a5 a6 a7).bind fun e2 => if e2 = 0 then ((config_asked_scale.f a0 a1 a2 a3 a4 a5 a6 a7).bind fun e3 => if e3 = 0 then (config_asked_off.f a0 a1 a2 a3 a4 a5 a6 a7) else some e3) else some e2) else some e1
theorem config_Check.mono : ∀ a0 a1 a2 a3 a4 a5 a6 a7 k, LeO (config_Check.f k a0 a1 a2 a3 a4 a5 a6 a7) (config_Check.f (k + 1) a0 a1 a2 a3 a4 a5 a6 a7) := by
 intro a0 a1 a2 a3 a4 a5 a6 a7 k
 unfold config_Check.f
 exact LeO.bind (config_asked_ranges.mono _ _ _ _ _ _ _ _ _) (fun _ => LeO.refl _)
set_option maxHeartbeats 8000000 in
set_option maxRecDepth 100000 in
theorem config_Check.walk0 (k : Nat) (a0 a1 a2 a3 a4 a5 a6 a7 r : Int) (w : World) (A0 : Aside0 (config_asked_ranges.f k a0 a1 a2 a3 a4 a5 a6 a7 = some r)) (c2b0 : (r != 0) = true) :
  Calls Try.prog 21 #[.agg #[.int .i64 a0, .int .i64 a1, .int .i64 a2, .int .i64 a3, .int .i64 a4, .int .i64 a5, .int .i64 a6, .int .i64 a7]] w fun e w' => e = .returned (.int .i64 r) ∧ Below w.heap.size w w' := by
 have hu39 := Try.underlying31
 have hu78 := Try.underlying67
 have hmf : ∀ (fn : Fn) (first cap : Array Value) (w : World), (Instr.makeFunc fn first cap).run Try.prog w = .ok (.func fn first cap) w := fun _ _ _ _ => rfl
 have hix0 : ∀ (x0 x1 x2 x3 : Value) (w : World), (Instr.index 69 (.agg #[x0, x1, x2, x3]) (.int .i64 0)).run Try.prog w = .ok x0 w := by intros; kernel_rfl
 have HB := Aside0.mk (Below.refl w.heap.size w)
 go_enter Try.func21, Try.ntmps21
 go_wp2_with (first | ((with_reducible refine gate_dst (N := 1) rfl ?_); refine bxA 1 #[.int .i64 a0, .int .i64 a1, .int .i64 a2, .int .i64 a3, .int .i64 a4, .int .i64 a5, .int .i64 a6, .int .i64 a7] 31 ?_; intro gb1 hg w5 hbox hb; have n0_ := Aside0.mk (below_step bA hb); have n1_ := Aside0.mk (hbox); have n2_ := Aside0.mk (gwA hg bA); clear HB; have HB := n0_; have BKgb1 := n1_; have GE1 := n2_; clear n0_ n1_ n2_ hb hbox hg; have hcz1_0 : w5.cell? ⟨gb1, 0, none⟩ = some (.int .i64 a0) := (blk_cell BKgb1.out 0).trans rfl; have hcz1_1 : w5.cell? ⟨gb1, 1, none⟩ = some (.int .i64 a1) := (blk_cell BKgb1.out 1).trans rfl; have hcz1_2 : w5.cell? ⟨gb1, 2, none⟩ = some (.int .i64 a2) := (blk_cell BKgb1.out 2).trans rfl; have hcz1_3 : w5.cell? ⟨gb1, 3, none⟩ = some (.int .i64 a3) := (blk_cell BKgb1.out 3).trans rfl; have hcz1_4 : w5.cell? ⟨gb1, 4, none⟩ = some (.int .i64 a4) := (blk_cell BKgb1.out 4).trans rfl; have hcz1_5 : w5.cell? ⟨gb1, 5, none⟩ = some (.int .i64 a5) := (blk_cell BKgb1.out 5).trans rfl; have hcz1_6 : w5.cell? ⟨gb1, 6, none⟩ = some (.int .i64 a6) := (blk_cell BKgb1.out 6).trans rfl; have hcz1_7 : w5.cell? ⟨gb1, 7, none⟩ = some (.int .i64 a7) := (blk_cell BKgb1.out 7).trans rfl; have hfz1_0 := blk_frozen BKgb1.out 0; have hfz1_1 := blk_frozen BKgb1.out 1; have hfz1_2 := blk_frozen BKgb1.out 2; have hfz1_3 := blk_frozen BKgb1.out 3; have hfz1_4 := blk_frozen BKgb1.out 4; have hfz1_5 := blk_frozen BKgb1.out 5; have hfz1_6 := blk_frozen BKgb1.out 6; have hfz1_7 := blk_frozen BKgb1.out 7) | ((with_reducible refine gate_dst (N := 3) rfl ?_); refine bxA 3 #[.int .i64 0, .int .i64 0, .int .i64 0, .int .i64 0, .int .i64 0, .int .i64 0, .int .i64 0, .int .i64 0] 67 ?_; intro gb2 hg w6 hbox hb; have n0_ := Aside0.mk (below_step bA hb); have n1_ := Aside0.mk (hbox); have n2_ := Aside0.mk (gwA hg bA); clear HB; have HB := n0_; have BKgb2 := n1_; have GE2 := n2_; clear n0_ n1_ n2_ hb hbox hg; have hcy0 : w6.cell? ⟨gb2, 0, none⟩ = some (.int .i64 0) := (blk_cell BKgb2.out 0).trans rfl; have hcy1 : w6.cell? ⟨gb2, 1, none⟩ = some (.int .i64 0) := (blk_cell BKgb2.out 1).trans rfl; have hcy2 : w6.cell? ⟨gb2, 2, none⟩ = some (.int .i64 0) := (blk_cell BKgb2.out 2).trans rfl; have hcy3 : w6.cell? ⟨gb2, 3, none⟩ = some (.int .i64 0) := (blk_cell BKgb2.out 3).trans rfl; have hcy4 : w6.cell? ⟨gb2, 4, none⟩ = some (.int .i64 0) := (blk_cell BKgb2.out 4).trans rfl; have hcy5 : w6.cell? ⟨gb2, 5, none⟩ = some (.int .i64 0) := (blk_cell BKgb2.out 5).trans rfl; have hcy6 : w6.cell? ⟨gb2, 6, none⟩ = some (.int .i64 0) := (blk_cell BKgb2.out 6).trans rfl; have hcy7 : w6.cell? ⟨gb2, 7, none⟩ = some (.int .i64 0) := (blk_cell BKgb2.out 7).trans rfl; have hfy0 := blk_frozen BKgb2.out 0; have hfy1 := blk_frozen BKgb2.out 1; have hfy2 := blk_frozen BKgb2.out 2; have hfy3 := blk_frozen BKgb2.out 3; have hfy4 := blk_frozen BKgb2.out 4; have hfy5 := blk_frozen BKgb2.out 5; have hfy6 := blk_frozen BKgb2.out 6; have hfy7 := blk_frozen BKgb2.out 7))
 have HB1 := Aside0.mk (show Below w.heap.size w _ from bA (W := ((((((((w6.setCell ⟨gb2, 0, none⟩ (.int .i64 a0)).setCell ⟨gb2, 1, none⟩ (.int .i64 a1)).setCell ⟨gb2, 2, none⟩ (.int .i64 a2)).setCell ⟨gb2, 3, none⟩ (.int .i64 a3)).setCell ⟨gb2, 4, none⟩ (.int .i64 a4)).setCell ⟨gb2, 5, none⟩ (.int .i64 a5)).setCell ⟨gb2, 6, none⟩ (.int .i64 a6)).setCell ⟨gb2, 7, none⟩ (.int .i64 a7)))); clear HB
 have HB := HB1
 clear HB1
 generalize ((((((((w6.setCell ⟨gb2, 0, none⟩ (.int .i64 a0)).setCell ⟨gb2, 1, none⟩ (.int .i64 a1)).setCell ⟨gb2, 2, none⟩ (.int .i64 a2)).setCell ⟨gb2, 3, none⟩ (.int .i64 a3)).setCell ⟨gb2, 4, none⟩ (.int .i64 a4)).setCell ⟨gb2, 5, none⟩ (.int .i64 a5)).setCell ⟨gb2, 6, none⟩ (.int .i64 a6)).setCell ⟨gb2, 7, none⟩ (.int .i64 a7)) = w7 at HB ⊢
 refine wp_loop_rounds 5 ?_
 rw [rounds_succ]
 go_wp2_with fail
 refine (config_asked_ranges.calls k a0 a1 a2 a3 a4 a5 a6 a7 r _ A0.out).mono ?_
 rintro e w20 ⟨rfl, hb⟩
 have n0_ := Aside0.mk (below_step bA hb); clear HB; have HB := n0_; clear n0_ hb
 go_wp2_with fail
 go_ret
 exact ⟨by first | rfl | (simp [errW_none, errW_some] <;> rfl) | (simp [*, errW_none, errW_some] <;> rfl), bA⟩
set_option maxHeartbeats 8000000 in
set_option maxRecDepth 100000 in
theorem config_Check.walk1 (k : Nat) (a0 a1 a2 a3 a4 a5 a6 a7 r : Int) (w : World) (A0 : Aside0 (config_asked_ranges.f k a0 a1 a2 a3 a4 a5 a6 a7 = some 0)) (A1 : Aside0 (config_asked_usage.f a0 a1 a2 a3 a4 a5 a6 a7 = some r)) (c2b0 : (r != 0) = true) :
  Calls Try.prog 21 #[.agg #[.int .i64 a0, .int .i64 a1, .int .i64 a2, .int .i64 a3, .int .i64 a4, .int .i64 a5, .int .i64 a6, .int .i64 a7]] w fun e w' => e = .returned (.int .i64 r) ∧ Below w.heap.size w w' := by
 have hu39 := Try.underlying31
 have hu78 := Try.underlying67
 have hmf : ∀ (fn : Fn) (first cap : Array Value) (w : World), (Instr.makeFunc fn first cap).run Try.prog w = .ok (.func fn first cap) w := fun _ _ _ _ => rfl
 have hix0 : ∀ (x0 x1 x2 x3 : Value) (w : World), (Instr.index 69 (.agg #[x0, x1, x2, x3]) (.int .i64 0)).run Try.prog w = .ok x0 w := by intros; kernel_rfl
 have hix1 : ∀ (x0 x1 x2 x3 : Value) (w : World), (Instr.index 69 (.agg #[x0, x1, x2, x3]) (.int .i64 1)).run Try.prog w = .ok x1 w := by intros; kernel_rfl
 have HB := Aside0.mk (Below.refl w.heap.size w)
 go_enter Try.func21, Try.ntmps21
 go_wp2_with (first | ((with_reducible refine gate_dst (N := 1) rfl ?_); refine bxA 1 #[.int .i64 a0, .int .i64 a1, .int .i64 a2, .int .i64 a3, .int .i64 a4, .int .i64 a5, .int .i64 a6, .int .i64 a7] 31 ?_; intro gb1 hg w5 hbox hb; have n0_ := Aside0.mk (below_step bA hb); have n1_ := Aside0.mk (hbox); have n2_ := Aside0.mk (gwA hg bA); clear HB; have HB := n0_; have BKgb1 := n1_; have GE1 := n2_; clear n0_ n1_ n2_ hb hbox hg; have hcz1_0 : w5.cell? ⟨gb1, 0, none⟩ = some (.int .i64 a0) := (blk_cell BKgb1.out 0).trans rfl; have hcz1_1 : w5.cell? ⟨gb1, 1, none⟩ = some (.int .i64 a1) := (blk_cell BKgb1.out 1).trans rfl; have hcz1_2 : w5.cell? ⟨gb1, 2, none⟩ = some (.int .i64 a2) := (blk_cell BKgb1.out 2).trans rfl; have hcz1_3 : w5.cell? ⟨gb1, 3, none⟩ = some (.int .i64 a3) := (blk_cell BKgb1.out 3).trans rfl; have hcz1_4 : w5.cell? ⟨gb1, 4, none⟩ = some (.int .i64 a4) := (blk_cell BKgb1.out 4).trans rfl; have hcz1_5 : w5.cell? ⟨gb1, 5, none⟩ = some (.int .i64 a5) := (blk_cell BKgb1.out 5).trans rfl; have hcz1_6 : w5.cell? ⟨gb1, 6, none⟩ = some (.int .i64 a6) := (blk_cell BKgb1.out 6).trans rfl; have hcz1_7 : w5.cell? ⟨gb1, 7, none⟩ = some (.int .i64 a7) := (blk_cell BKgb1.out 7).trans rfl; have hfz1_0 := blk_frozen BKgb1.out 0; have hfz1_1 := blk_frozen BKgb1.out 1; have hfz1_2 := blk_frozen BKgb1.out 2; have hfz1_3 := blk_frozen BKgb1.out 3; have hfz1_4 := blk_frozen BKgb1.out 4; have hfz1_5 := blk_frozen BKgb1.out 5; have hfz1_6 := blk_frozen BKgb1.out 6; have hfz1_7 := blk_frozen BKgb1.out 7) | ((with_reducible refine gate_dst (N := 3) rfl ?_); refine bxA 3 #[.int .i64 0, .int .i64 0, .int .i64 0, .int .i64 0, .int .i64 0, .int .i64 0, .int .i64 0, .int .i64 0] 67 ?_; intro gb2 hg w6 hbox hb; have n0_ := Aside0.mk (below_step bA hb); have n1_ := Aside0.mk (hbox); have n2_ := Aside0.mk (gwA hg bA); clear HB; have HB := n0_; have BKgb2 := n1_; have GE2 := n2_; clear n0_ n1_ n2_ hb hbox hg; have hcy0 : w6.cell? ⟨gb2, 0, none⟩ = some (.int .i64 0) := (blk_cell BKgb2.out 0).trans rfl; have hcy1 : w6.cell? ⟨gb2, 1, none⟩ = some (.int .i64 0) := (blk_cell BKgb2.out 1).trans rfl; have hcy2 : w6.cell? ⟨gb2, 2, none⟩ = some (.int .i64 0) := (blk_cell BKgb2.out 2).trans rfl; have hcy3 : w6.cell? ⟨gb2, 3, none⟩ = some (.int .i64 0) := (blk_cell BKgb2.out 3).trans rfl; have hcy4 : w6.cell? ⟨gb2, 4, none⟩ = some (.int .i64 0) := (blk_cell BKgb2.out 4).trans rfl; have hcy5 : w6.cell? ⟨gb2, 5, none⟩ = some (.int .i64 0) := (blk_cell BKgb2.out 5).trans rfl; have hcy6 : w6.cell? ⟨gb2, 6, none⟩ = some (.int .i64 0) := (blk_cell BKgb2.out 6).trans rfl; have hcy7 : w6.cell? ⟨gb2, 7, none⟩ = some (.int .i64 0) := (blk_cell BKgb2.out 7).trans rfl; have hfy0 := blk_frozen BKgb2.out 0; have hfy1 := blk_frozen BKgb2.out 1; have hfy2 := blk_frozen BKgb2.out 2; have hfy3 := blk_frozen BKgb2.out 3; have hfy4 := blk_frozen BKgb2.out 4; have hfy5 := blk_frozen BKgb2.out 5; have hfy6 := blk_frozen BKgb2.out 6; have hfy7 := blk_frozen BKgb2.out 7))
 have HB1 := Aside0.mk (show Below w.heap.size w _ from bA (W := ((((((((w6.setCell ⟨gb2, 0, none⟩ (.int .i64 a0)).setCell ⟨gb2, 1, none⟩ (.int .i64 a1)).setCell ⟨gb2, 2, none⟩ (.int .i64 a2)).setCell ⟨gb2, 3, none⟩ (.int .i64 a3)).setCell ⟨gb2, 4, none⟩ (.int .i64 a4)).setCell ⟨gb2, 5, none⟩ (.int .i64 a5)).setCell ⟨gb2, 6, none⟩ (.int .i64 a6)).setCell ⟨gb2, 7, none⟩ (.int .i64 a7)))); clear HB
 have HB := HB1
 clear HB1
 generalize ((((((((w6.setCell ⟨gb2, 0, none⟩ (.int .i64 a0)).setCell ⟨gb2, 1, none⟩ (.int .i64 a1)).setCell ⟨gb2, 2, none⟩ (.int .i64 a2)).setCell ⟨gb2, 3, none⟩ (.int .i64 a3)).setCell ⟨gb2, 4, none⟩ (.int .i64 a4)).setCell ⟨gb2, 5, none⟩ (.int .i64 a5)).setCell ⟨gb2, 6, none⟩ (.int .i64 a6)).setCell ⟨gb2, 7, none⟩ (.int .i64 a7)) = w7 at HB ⊢
 refine wp_loop_rounds 5 ?_
 rw [rounds_succ]
 go_wp2_with fail
 refine (config_asked_ranges.calls k a0 a1 a2 a3 a4 a5 a6 a7 0 _ A0.out).mono ?_
 rintro e w20 ⟨rfl, hb⟩
 have n0_ := Aside0.mk (below_step bA hb); clear HB; have HB := n0_; clear n0_ hb
 go_wp2_with fail
 rw [rounds_succ]
 go_wp2_with fail
 refine (config_asked_usage.calls a0 a1 a2 a3 a4 a5 a6 a7 r _ A1.out).mono ?_
 rintro e w21 ⟨rfl, hb⟩
 have n0_ := Aside0.mk (below_step bA hb); clear HB; have HB := n0_; clear n0_ hb
 go_wp2_with fail
 go_ret
 exact ⟨by first | rfl | (simp [errW_none, errW_some] <;> rfl) | (simp [*, errW_none, errW_some] <;> rfl), bA⟩
set_option maxHeartbeats 8000000 in
set_option maxRecDepth 100000 in
theorem config_Check.walk2 (k : Nat) (a0 a1 a2 a3 a4 a5 a6 a7 r : Int) (w : World) (A0 : Aside0 (config_asked_ranges.f k a0 a1 a2 a3 a4 a5 a6 a7 = some 0)) (A1 : Aside0 (config_asked_usage.f a0 a1 a2 a3 a4 a5 a6 a7 = some 0)) (A2 : Aside0 (config_asked_scale.f a0 a1 a2 a3 a4 a5 a6 a7 = some r)) (c2b0 : (r != 0) = true) :
  Calls Try.prog 21 #[.agg #[.int .i64 a0, .int .i64 a1, .int .i64 a2, .int .i64 a3, .int .i64 a4, .int .i64 a5, .int .i64 a6, .int .i64 a7]] w fun e w' => e = .returned (.int .i64 r) ∧ Below w.heap.size w w' := by
 have hu39 := Try.underlying31
 have hu78 := Try.underlying67
 have hmf : ∀ (fn : Fn) (first cap : Array Value) (w : World), (Instr.makeFunc fn first cap).run Try.prog w = .ok (.func fn first cap) w := fun _ _ _ _ => rfl
 have hix0 : ∀ (x0 x1 x2 x3 : Value) (w : World), (Instr.index 69 (.agg #[x0, x1, x2, x3]) (.int .i64 0)).run Try.prog w = .ok x0 w := by intros; kernel_rfl
 have hix1 : ∀ (x0 x1 x2 x3 : Value) (w : World), (Instr.index 69 (.agg #[x0, x1, x2, x3]) (.int .i64 1)).run Try.prog w = .ok x1 w := by intros; kernel_rfl
 have hix2 : ∀ (x0 x1 x2 x3 : Value) (w : World), (Instr.index 69 (.agg #[x0, x1, x2, x3]) (.int .i64 2)).run Try.prog w = .ok x2 w := by intros; kernel_rfl
 have HB := Aside0.mk (Below.refl w.heap.size w)
 go_enter Try.func21, Try.ntmps21
 go_wp2_with (first | ((with_reducible refine gate_dst (N := 1) rfl ?_); refine bxA 1 #[.int .i64 a0, .int .i64 a1, .int .i64 a2, .int .i64 a3, .int .i64 a4, .int .i64 a5, .int .i64 a6, .int .i64 a7] 31 ?_; intro gb1 hg w5 hbox hb; have n0_ := Aside0.mk (below_step bA hb); have n1_ := Aside0.mk (hbox); have n2_ := Aside0.mk (gwA hg bA); clear HB; have HB := n0_; have BKgb1 := n1_; have GE1 := n2_; clear n0_ n1_ n2_ hb hbox hg; have hcz1_0 : w5.cell? ⟨gb1, 0, none⟩ = some (.int .i64 a0) := (blk_cell BKgb1.out 0).trans rfl; have hcz1_1 : w5.cell? ⟨gb1, 1, none⟩ = some (.int .i64 a1) := (blk_cell BKgb1.out 1).trans rfl; have hcz1_2 : w5.cell? ⟨gb1, 2, none⟩ = some (.int .i64 a2) := (blk_cell BKgb1.out 2).trans rfl; have hcz1_3 : w5.cell? ⟨gb1, 3, none⟩ = some (.int .i64 a3) := (blk_cell BKgb1.out 3).trans rfl; have hcz1_4 : w5.cell? ⟨gb1, 4, none⟩ = some (.int .i64 a4) := (blk_cell BKgb1.out 4).trans rfl; have hcz1_5 : w5.cell? ⟨gb1, 5, none⟩ = some (.int .i64 a5) := (blk_cell BKgb1.out 5).trans rfl; have hcz1_6 : w5.cell? ⟨gb1, 6, none⟩ = some (.int .i64 a6) := (blk_cell BKgb1.out 6).trans rfl; have hcz1_7 : w5.cell? ⟨gb1, 7, none⟩ = some (.int .i64 a7) := (blk_cell BKgb1.out 7).trans rfl; have hfz1_0 := blk_frozen BKgb1.out 0; have hfz1_1 := blk_frozen BKgb1.out 1; have hfz1_2 := blk_frozen BKgb1.out 2; have hfz1_3 := blk_frozen BKgb1.out 3; have hfz1_4 := blk_frozen BKgb1.out 4; have hfz1_5 := blk_frozen BKgb1.out 5; have hfz1_6 := blk_frozen BKgb1.out 6; have hfz1_7 := blk_frozen BKgb1.out 7) | ((with_reducible refine gate_dst (N := 3) rfl ?_); refine bxA 3 #[.int .i64 0, .int .i64 0, .int .i64 0, .int .i64 0, .int .i64 0, .int .i64 0, .int .i64 0, .int .i64 0] 67 ?_; intro gb2 hg w6 hbox hb; have n0_ := Aside0.mk (below_step bA hb); have n1_ := Aside0.mk (hbox); have n2_ := Aside0.mk (gwA hg bA); clear HB; have HB := n0_; have BKgb2 := n1_; have GE2 := n2_; clear n0_ n1_ n2_ hb hbox hg; have hcy0 : w6.cell? ⟨gb2, 0, none⟩ = some (.int .i64 0) := (blk_cell BKgb2.out 0).trans rfl; have hcy1 : w6.cell? ⟨gb2, 1, none⟩ = some (.int .i64 0) := (blk_cell BKgb2.out 1).trans rfl; have hcy2 : w6.cell? ⟨gb2, 2, none⟩ = some (.int .i64 0) := (blk_cell BKgb2.out 2).trans rfl; have hcy3 : w6.cell? ⟨gb2, 3, none⟩ = some (.int .i64 0) := (blk_cell BKgb2.out 3).trans rfl; have hcy4 : w6.cell? ⟨gb2, 4, none⟩ = some (.int .i64 0) := (blk_cell BKgb2.out 4).trans rfl; have hcy5 : w6.cell? ⟨gb2, 5, none⟩ = some (.int .i64 0) := (blk_cell BKgb2.out 5).trans rfl; have hcy6 : w6.cell? ⟨gb2, 6, none⟩ = some (.int .i64 0) := (blk_cell BKgb2.out 6).trans rfl; have hcy7 : w6.cell? ⟨gb2, 7, none⟩ = some (.int .i64 0) := (blk_cell BKgb2.out 7).trans rfl; have hfy0 := blk_frozen BKgb2.out 0; have hfy1 := blk_frozen BKgb2.out 1; have hfy2 := blk_frozen BKgb2.out 2; have hfy3 := blk_frozen BKgb2.out 3; have hfy4 := blk_frozen BKgb2.out 4; have hfy5 := blk_frozen BKgb2.out 5; have hfy6 := blk_frozen BKgb2.out 6; have hfy7 := blk_frozen BKgb2.out 7))
 have HB1 := Aside0.mk (show Below w.heap.size w _ from bA (W := ((((((((w6.setCell ⟨gb2, 0, none⟩ (.int .i64 a0)).setCell ⟨gb2, 1, none⟩ (.int .i64 a1)).setCell ⟨gb2, 2, none⟩ (.int .i64 a2)).setCell ⟨gb2, 3, none⟩ (.int .i64 a3)).setCell ⟨gb2, 4, none⟩ (.int .i64 a4)).setCell ⟨gb2, 5, none⟩ (.int .i64 a5)).setCell ⟨gb2, 6, none⟩ (.int .i64 a6)).setCell ⟨gb2, 7, none⟩ (.int .i64 a7)))); clear HB
 have HB := HB1
 clear HB1
 generalize ((((((((w6.setCell ⟨gb2, 0, none⟩ (.int .i64 a0)).setCell ⟨gb2, 1, none⟩ (.int .i64 a1)).setCell ⟨gb2, 2, none⟩ (.int .i64 a2)).setCell ⟨gb2, 3, none⟩ (.int .i64 a3)).setCell ⟨gb2, 4, none⟩ (.int .i64 a4)).setCell ⟨gb2, 5, none⟩ (.int .i64 a5)).setCell ⟨gb2, 6, none⟩ (.int .i64 a6)).setCell ⟨gb2, 7, none⟩ (.int .i64 a7)) = w7 at HB ⊢
 refine wp_loop_rounds 5 ?_
 rw [rounds_succ]
 go_wp2_with fail
 refine (config_asked_ranges.calls k a0 a1 a2 a3 a4 a5 a6 a7 0 _ A0.out).mono ?_
 rintro e w20 ⟨rfl, hb⟩
 have n0_ := Aside0.mk (below_step bA hb); clear HB; have HB := n0_; clear n0_ hb
 go_wp2_with fail
 rw [rounds_succ]
 go_wp2_with fail
 refine (config_asked_usage.calls a0 a1 a2 a3 a4 a5 a6 a7 0 _ A1.out).mono ?_
 rintro e w21 ⟨rfl, hb⟩
 have n0_ := Aside0.mk (below_step bA hb); clear HB; have HB := n0_; clear n0_ hb
 go_wp2_with fail
 rw [rounds_succ]
 go_wp2_with fail
 refine (config_asked_scale.calls a0 a1 a2 a3 a4 a5 a6 a7 r _ A2.out).mono ?_
 rintro e w22 ⟨rfl, hb⟩
 have n0_ := Aside0.mk (below_step bA hb); clear HB; have HB := n0_; clear n0_ hb
 go_wp2_with fail
 go_ret
 exact ⟨by first | rfl | (simp [errW_none, errW_some] <;> rfl) | (simp [*, errW_none, errW_some] <;> rfl), bA⟩
set_option maxHeartbeats 8000000 in
set_option maxRecDepth 100000 in
theorem config_Check.walk3 (k : Nat) (a0 a1 a2 a3 a4 a5 a6 a7 r : Int) (w : World) (A0 : Aside0 (config_asked_ranges.f k a0 a1 a2 a3 a4 a5 a6 a7 = some 0)) (A1 : Aside0 (config_asked_usage.f a0 a1 a2 a3 a4 a5 a6 a7 = some 0)) (A2 : Aside0 (config_asked_scale.f a0 a1 a2 a3 a4 a5 a6 a7 = some 0)) (A3 : Aside0 (config_asked_off.f a0 a1 a2 a3 a4 a5 a6 a7 = some r)) (c2b0 : (r != 0) = true) :
  Calls Try.prog 21 #[.agg #[.int .i64 a0, .int .i64 a1, .int .i64 a2, .int .i64 a3, .int .i64 a4, .int .i64 a5, .int .i64 a6, .int .i64 a7]] w fun e w' => e = .returned (.int .i64 r) ∧ Below w.heap.size w w' := by
 have hu39 := Try.underlying31
 have hu78 := Try.underlying67
 have hmf : ∀ (fn : Fn) (first cap : Array Value) (w : World), (Instr.makeFunc fn first cap).run Try.prog w = .ok (.func fn first cap) w := fun _ _ _ _ => rfl
 have hix0 : ∀ (x0 x1 x2 x3 : Value) (w : World), (Instr.index 69 (.agg #[x0, x1, x2, x3]) (.int .i64 0)).run Try.prog w = .ok x0 w := by intros; kernel_rfl
 have hix1 : ∀ (x0 x1 x2 x3 : Value) (w : World), (Instr.index 69 (.agg #[x0, x1, x2, x3]) (.int .i64 1)).run Try.prog w = .ok x1 w := by intros; kernel_rfl
 have hix2 : ∀ (x0 x1 x2 x3 : Value) (w : World), (Instr.index 69 (.agg #[x0, x1, x2, x3]) (.int .i64 2)).run Try.prog w = .ok x2 w := by intros; kernel_rfl
 have hix3 : ∀ (x0 x1 x2 x3 : Value) (w : World), (Instr.index 69 (.agg #[x0, x1, x2, x3]) (.int .i64 3)).run Try.prog w = .ok x3 w := by intros; kernel_rfl
 have HB := Aside0.mk (Below.refl w.heap.size w)
 go_enter Try.func21, Try.ntmps21
 go_wp2_with (first | ((with_reducible refine gate_dst (N := 1) rfl ?_); refine bxA 1 #[.int .i64 a0, .int .i64 a1, .int .i64 a2, .int .i64 a3, .int .i64 a4, .int .i64 a5, .int .i64 a6, .int .i64 a7] 31 ?_; intro gb1 hg w5 hbox hb; have n0_ := Aside0.mk (below_step bA hb); have n1_ := Aside0.mk (hbox); have n2_ := Aside0.mk (gwA hg bA); clear HB; have HB := n0_; have BKgb1 := n1_; have GE1 := n2_; clear n0_ n1_ n2_ hb hbox hg; have hcz1_0 : w5.cell? ⟨gb1, 0, none⟩ = some (.int .i64 a0) := (blk_cell BKgb1.out 0).trans rfl; have hcz1_1 : w5.cell? ⟨gb1, 1, none⟩ = some (.int .i64 a1) := (blk_cell BKgb1.out 1).trans rfl; have hcz1_2 : w5.cell? ⟨gb1, 2, none⟩ = some (.int .i64 a2) := (blk_cell BKgb1.out 2).trans rfl; have hcz1_3 : w5.cell? ⟨gb1, 3, none⟩ = some (.int .i64 a3) := (blk_cell BKgb1.out 3).trans rfl; have hcz1_4 : w5.cell? ⟨gb1, 4, none⟩ = some (.int .i64 a4) := (blk_cell BKgb1.out 4).trans rfl; have hcz1_5 : w5.cell? ⟨gb1, 5, none⟩ = some (.int .i64 a5) := (blk_cell BKgb1.out 5).trans rfl; have hcz1_6 : w5.cell? ⟨gb1, 6, none⟩ = some (.int .i64 a6) := (blk_cell BKgb1.out 6).trans rfl; have hcz1_7 : w5.cell? ⟨gb1, 7, none⟩ = some (.int .i64 a7) := (blk_cell BKgb1.out 7).trans rfl; have hfz1_0 := blk_frozen BKgb1.out 0; have hfz1_1 := blk_frozen BKgb1.out 1; have hfz1_2 := blk_frozen BKgb1.out 2; have hfz1_3 := blk_frozen BKgb1.out 3; have hfz1_4 := blk_frozen BKgb1.out 4; have hfz1_5 := blk_frozen BKgb1.out 5; have hfz1_6 := blk_frozen BKgb1.out 6; have hfz1_7 := blk_frozen BKgb1.out 7) | ((with_reducible refine gate_dst (N := 3) rfl ?_); refine bxA 3 #[.int .i64 0, .int .i64 0, .int .i64 0, .int .i64 0, .int .i64 0, .int .i64 0, .int .i64 0, .int .i64 0] 67 ?_; intro gb2 hg w6 hbox hb; have n0_ := Aside0.mk (below_step bA hb); have n1_ := Aside0.mk (hbox); have n2_ := Aside0.mk (gwA hg bA); clear HB; have HB := n0_; have BKgb2 := n1_; have GE2 := n2_; clear n0_ n1_ n2_ hb hbox hg; have hcy0 : w6.cell? ⟨gb2, 0, none⟩ = some (.int .i64 0) := (blk_cell BKgb2.out 0).trans rfl; have hcy1 : w6.cell? ⟨gb2, 1, none⟩ = some (.int .i64 0) := (blk_cell BKgb2.out 1).trans rfl; have hcy2 : w6.cell? ⟨gb2, 2, none⟩ = some (.int .i64 0) := (blk_cell BKgb2.out 2).trans rfl; have hcy3 : w6.cell? ⟨gb2, 3, none⟩ = some (.int .i64 0) := (blk_cell BKgb2.out 3).trans rfl; have hcy4 : w6.cell? ⟨gb2, 4, none⟩ = some (.int .i64 0) := (blk_cell BKgb2.out 4).trans rfl; have hcy5 : w6.cell? ⟨gb2, 5, none⟩ = some (.int .i64 0) := (blk_cell BKgb2.out 5).trans rfl; have hcy6 : w6.cell? ⟨gb2, 6, none⟩ = some (.int .i64 0) := (blk_cell BKgb2.out 6).trans rfl; have hcy7 : w6.cell? ⟨gb2, 7, none⟩ = some (.int .i64 0) := (blk_cell BKgb2.out 7).trans rfl; have hfy0 := blk_frozen BKgb2.out 0; have hfy1 := blk_frozen BKgb2.out 1; have hfy2 := blk_frozen BKgb2.out 2; have hfy3 := blk_frozen BKgb2.out 3; have hfy4 := blk_frozen BKgb2.out 4; have hfy5 := blk_frozen BKgb2.out 5; have hfy6 := blk_frozen BKgb2.out 6; have hfy7 := blk_frozen BKgb2.out 7))
 have HB1 := Aside0.mk (show Below w.heap.size w _ from bA (W := ((((((((w6.setCell ⟨gb2, 0, none⟩ (.int .i64 a0)).setCell ⟨gb2, 1, none⟩ (.int .i64 a1)).setCell ⟨gb2, 2, none⟩ (.int .i64 a2)).setCell ⟨gb2, 3, none⟩ (.int .i64 a3)).setCell ⟨gb2, 4, none⟩ (.int .i64 a4)).setCell ⟨gb2, 5, none⟩ (.int .i64 a5)).setCell ⟨gb2, 6, none⟩ (.int .i64 a6)).setCell ⟨gb2, 7, none⟩ (.int .i64 a7)))); clear HB
 have HB := HB1
 clear HB1
 generalize ((((((((w6.setCell ⟨gb2, 0, none⟩ (.int .i64 a0)).setCell ⟨gb2, 1, none⟩ (.int .i64 a1)).setCell ⟨gb2, 2, none⟩ (.int .i64 a2)).setCell ⟨gb2, 3, none⟩ (.int .i64 a3)).setCell ⟨gb2, 4, none⟩ (.int .i64 a4)).setCell ⟨gb2, 5, none⟩ (.int .i64 a5)).setCell ⟨gb2, 6, none⟩ (.int .i64 a6)).setCell ⟨gb2, 7, none⟩ (.int .i64 a7)) = w7 at HB ⊢
 refine wp_loop_rounds 5 ?_
 rw [rounds_succ]
 go_wp2_with fail
 refine (config_asked_ranges.calls k a0 a1 a2 a3 a4 a5 a6 a7 0 _ A0.out).mono ?_
 rintro e w20 ⟨rfl, hb⟩
 have n0_ := Aside0.mk (below_step bA hb); clear HB; have HB := n0_; clear n0_ hb
 go_wp2_with fail
 rw [rounds_succ]
 go_wp2_with fail
 refine (config_asked_usage.calls a0 a1 a2 a3 a4 a5 a6 a7 0 _ A1.out).mono ?_
 rintro e w21 ⟨rfl, hb⟩
 have n0_ := Aside0.mk (below_step bA hb); clear HB; have HB := n0_; clear n0_ hb
 go_wp2_with fail
 rw [rounds_succ]
 go_wp2_with fail
 refine (config_asked_scale.calls a0 a1 a2 a3 a4 a5 a6 a7 0 _ A2.out).mono ?_
 rintro e w22 ⟨rfl, hb⟩
 have n0_ := Aside0.mk (below_step bA hb); clear HB; have HB := n0_; clear n0_ hb
 go_wp2_with fail
 rw [rounds_succ]
 go_wp2_with fail
 refine (config_asked_off.calls a0 a1 a2 a3 a4 a5 a6 a7 r _ A3.out).mono ?_
 rintro e w23 ⟨rfl, hb⟩
 have n0_ := Aside0.mk (below_step bA hb); clear HB; have HB := n0_; clear n0_ hb
 go_wp2_with fail
 go_ret
 exact ⟨by first | rfl | (simp [errW_none, errW_some] <;> rfl) | (simp [*, errW_none, errW_some] <;> rfl), bA⟩
set_option maxHeartbeats 8000000 in
set_option maxRecDepth 100000 in
theorem config_Check.walk4 (k : Nat) (a0 a1 a2 a3 a4 a5 a6 a7 : Int) (w : World) (A0 : Aside0 (config_asked_ranges.f k a0 a1 a2 a3 a4 a5 a6 a7 = some 0)) (A1 : Aside0 (config_asked_usage.f a0 a1 a2 a3 a4 a5 a6 a7 = some 0)) (A2 : Aside0 (config_asked_scale.f a0 a1 a2 a3 a4 a5 a6 a7 = some 0)) (A3 : Aside0 (config_asked_off.f a0 a1 a2 a3 a4 a5 a6 a7 = some 0)) :
  Calls Try.prog 21 #[.agg #[.int .i64 a0, .int .i64 a1, .int .i64 a2, .int .i64 a3, .int .i64 a4, .int .i64 a5, .int .i64 a6, .int .i64 a7]] w fun e w' => e = .returned (.int .i64 0) ∧ Below w.heap.size w w' := by
 have hu39 := Try.underlying31
 have hu78 := Try.underlying67
 have hmf : ∀ (fn : Fn) (first cap : Array Value) (w : World), (Instr.makeFunc fn first cap).run Try.prog w = .ok (.func fn first cap) w := fun _ _ _ _ => rfl
 have hix0 : ∀ (x0 x1 x2 x3 : Value) (w : World), (Instr.index 69 (.agg #[x0, x1, x2, x3]) (.int .i64 0)).run Try.prog w = .ok x0 w := by intros; kernel_rfl
 have hix1 : ∀ (x0 x1 x2 x3 : Value) (w : World), (Instr.index 69 (.agg #[x0, x1, x2, x3]) (.int .i64 1)).run Try.prog w = .ok x1 w := by intros; kernel_rfl
 have hix2 : ∀ (x0 x1 x2 x3 : Value) (w : World), (Instr.index 69 (.agg #[x0, x1, x2, x3]) (.int .i64 2)).run Try.prog w = .ok x2 w := by intros; kernel_rfl
 have hix3 : ∀ (x0 x1 x2 x3 : Value) (w : World), (Instr.index 69 (.agg #[x0, x1, x2, x3]) (.int .i64 3)).run Try.prog w = .ok x3 w := by intros; kernel_rfl
 have HB := Aside0.mk (Below.refl w.heap.size w)
 go_enter Try.func21, Try.ntmps21
 go_wp2_with (first | ((with_reducible refine gate_dst (N := 1) rfl ?_); refine bxA 1 #[.int .i64 a0, .int .i64 a1, .int .i64 a2, .int .i64 a3, .int .i64 a4, .int .i64 a5, .int .i64 a6, .int .i64 a7] 31 ?_; intro gb1 hg w5 hbox hb; have n0_ := Aside0.mk (below_step bA hb); have n1_ := Aside0.mk (hbox); have n2_ := Aside0.mk (gwA hg bA); clear HB; have HB := n0_; have BKgb1 := n1_; have GE1 := n2_; clear n0_ n1_ n2_ hb hbox hg; have hcz1_0 : w5.cell? ⟨gb1, 0, none⟩ = some (.int .i64 a0) := (blk_cell BKgb1.out 0).trans rfl; have hcz1_1 : w5.cell? ⟨gb1, 1, none⟩ = some (.int .i64 a1) := (blk_cell BKgb1.out 1).trans rfl; have hcz1_2 : w5.cell? ⟨gb1, 2, none⟩ = some (.int .i64 a2) := (blk_cell BKgb1.out 2).trans rfl; have hcz1_3 : w5.cell? ⟨gb1, 3, none⟩ = some (.int .i64 a3) := (blk_cell BKgb1.out 3).trans rfl; have hcz1_4 : w5.cell? ⟨gb1, 4, none⟩ = some (.int .i64 a4) := (blk_cell BKgb1.out 4).trans rfl; have hcz1_5 : w5.cell? ⟨gb1, 5, none⟩ = some (.int .i64 a5) := (blk_cell BKgb1.out 5).trans rfl; have hcz1_6 : w5.cell? ⟨gb1, 6, none⟩ = some (.int .i64 a6) := (blk_cell BKgb1.out 6).trans rfl; have hcz1_7 : w5.cell? ⟨gb1, 7, none⟩ = some (.int .i64 a7) := (blk_cell BKgb1.out 7).trans rfl; have hfz1_0 := blk_frozen BKgb1.out 0; have hfz1_1 := blk_frozen BKgb1.out 1; have hfz1_2 := blk_frozen BKgb1.out 2; have hfz1_3 := blk_frozen BKgb1.out 3; have hfz1_4 := blk_frozen BKgb1.out 4; have hfz1_5 := blk_frozen BKgb1.out 5; have hfz1_6 := blk_frozen BKgb1.out 6; have hfz1_7 := blk_frozen BKgb1.out 7) | ((with_reducible refine gate_dst (N := 3) rfl ?_); refine bxA 3 #[.int .i64 0, .int .i64 0, .int .i64 0, .int .i64 0, .int .i64 0, .int .i64 0, .int .i64 0, .int .i64 0] 67 ?_; intro gb2 hg w6 hbox hb; have n0_ := Aside0.mk (below_step bA hb); have n1_ := Aside0.mk (hbox); have n2_ := Aside0.mk (gwA hg bA); clear HB; have HB := n0_; have BKgb2 := n1_; have GE2 := n2_; clear n0_ n1_ n2_ hb hbox hg; have hcy0 : w6.cell? ⟨gb2, 0, none⟩ = some (.int .i64 0) := (blk_cell BKgb2.out 0).trans rfl; have hcy1 : w6.cell? ⟨gb2, 1, none⟩ = some (.int .i64 0) := (blk_cell BKgb2.out 1).trans rfl; have hcy2 : w6.cell? ⟨gb2, 2, none⟩ = some (.int .i64 0) := (blk_cell BKgb2.out 2).trans rfl; have hcy3 : w6.cell? ⟨gb2, 3, none⟩ = some (.int .i64 0) := (blk_cell BKgb2.out 3).trans rfl; have hcy4 : w6.cell? ⟨gb2, 4, none⟩ = some (.int .i64 0) := (blk_cell BKgb2.out 4).trans rfl; have hcy5 : w6.cell? ⟨gb2, 5, none⟩ = some (.int .i64 0) := (blk_cell BKgb2.out 5).trans rfl; have hcy6 : w6.cell? ⟨gb2, 6, none⟩ = some (.int .i64 0) := (blk_cell BKgb2.out 6).trans rfl; have hcy7 : w6.cell? ⟨gb2, 7, none⟩ = some (.int .i64 0) := (blk_cell BKgb2.out 7).trans rfl; have hfy0 := blk_frozen BKgb2.out 0; have hfy1 := blk_frozen BKgb2.out 1; have hfy2 := blk_frozen BKgb2.out 2; have hfy3 := blk_frozen BKgb2.out 3; have hfy4 := blk_frozen BKgb2.out 4; have hfy5 := blk_frozen BKgb2.out 5; have hfy6 := blk_frozen BKgb2.out 6; have hfy7 := blk_frozen BKgb2.out 7))
 have HB1 := Aside0.mk (show Below w.heap.size w _ from bA (W := ((((((((w6.setCell ⟨gb2, 0, none⟩ (.int .i64 a0)).setCell ⟨gb2, 1, none⟩ (.int .i64 a1)).setCell ⟨gb2, 2, none⟩ (.int .i64 a2)).setCell ⟨gb2, 3, none⟩ (.int .i64 a3)).setCell ⟨gb2, 4, none⟩ (.int .i64 a4)).setCell ⟨gb2, 5, none⟩ (.int .i64 a5)).setCell ⟨gb2, 6, none⟩ (.int .i64 a6)).setCell ⟨gb2, 7, none⟩ (.int .i64 a7)))); clear HB
 have HB := HB1
 clear HB1
 generalize ((((((((w6.setCell ⟨gb2, 0, none⟩ (.int .i64 a0)).setCell ⟨gb2, 1, none⟩ (.int .i64 a1)).setCell ⟨gb2, 2, none⟩ (.int .i64 a2)).setCell ⟨gb2, 3, none⟩ (.int .i64 a3)).setCell ⟨gb2, 4, none⟩ (.int .i64 a4)).setCell ⟨gb2, 5, none⟩ (.int .i64 a5)).setCell ⟨gb2, 6, none⟩ (.int .i64 a6)).setCell ⟨gb2, 7, none⟩ (.int .i64 a7)) = w7 at HB ⊢
 refine wp_loop_rounds 5 ?_
 rw [rounds_succ]
 go_wp2_with fail
 refine (config_asked_ranges.calls k a0 a1 a2 a3 a4 a5 a6 a7 0 _ A0.out).mono ?_
 rintro e w20 ⟨rfl, hb⟩
 have n0_ := Aside0.mk (below_step bA hb); clear HB; have HB := n0_; clear n0_ hb
 go_wp2_with fail
 rw [rounds_succ]
 go_wp2_with fail
 refine (config_asked_usage.calls a0 a1 a2 a3 a4 a5 a6 a7 0 _ A1.out).mono ?_
 rintro e w21 ⟨rfl, hb⟩
 have n0_ := Aside0.mk (below_step bA hb); clear HB; have HB := n0_; clear n0_ hb
 go_wp2_with fail
 rw [rounds_succ]
 go_wp2_with fail
 refine (config_asked_scale.calls a0 a1 a2 a3 a4 a5 a6 a7 0 _ A2.out).mono ?_
 rintro e w22 ⟨rfl, hb⟩
 have n0_ := Aside0.mk (below_step bA hb); clear HB; have HB := n0_; clear n0_ hb
 go_wp2_with fail
 rw [rounds_succ]
 go_wp2_with fail
 refine (config_asked_off.calls a0 a1 a2 a3 a4 a5 a6 a7 0 _ A3.out).mono ?_
 rintro e w23 ⟨rfl, hb⟩
 have n0_ := Aside0.mk (below_step bA hb); clear HB; have HB := n0_; clear n0_ hb
 go_wp2_with fail
 rw [rounds_succ]
 go_wp2
 go_ret
 exact ⟨by first | rfl | (simp [errW_none, errW_some] <;> rfl) | (simp [*, errW_none, errW_some] <;> rfl), bA⟩
theorem config_Check.calls (k : Nat) (a0 a1 a2 a3 a4 a5 a6 a7 r : Int) (w : World) (h : config_Check.f k a0 a1 a2 a3 a4 a5 a6 a7 = some r) :
  Calls Try.prog 21 #[.agg #[.int .i64 a0, .int .i64 a1, .int .i64 a2, .int .i64 a3, .int .i64 a4, .int .i64 a5, .int .i64 a6, .int .i64 a7]] w fun e w' => e = .returned (.int .i64 r) ∧ Below w.heap.size w w' := by
 unfold config_Check.f at h
 obtain ⟨e1, h1, h⟩ := Option.bind_eq_some_iff.mp h
 by_cases c1 : e1 = 0
 ·rw [if_pos c1] at h
  subst c1
  obtain ⟨e2, h2, h⟩ := Option.bind_eq_some_iff.mp h
  by_cases c2 : e2 = 0
  ·rw [if_pos c2] at h
   subst c2
   obtain ⟨e3, h3, h⟩ := Option.bind_eq_some_iff.mp h
   by_cases c3 : e3 = 0
   ·rw [if_pos c3] at h
    subst c3
    by_cases c4 : r = 0
    ·subst c4
     exact config_Check.walk4 k a0 a1 a2 a3 a4 a5 a6 a7 w ⟨h1⟩ ⟨h2⟩ ⟨h3⟩ ⟨h⟩
    ·exact config_Check.walk3 k a0 a1 a2 a3 a4 a5 a6 a7 r w ⟨h1⟩ ⟨h2⟩ ⟨h3⟩ ⟨h⟩ (bne_iff_ne.mpr c4)
   ·rw [if_neg c3] at h
    obtain rfl := Option.some.inj h
    exact config_Check.walk2 k a0 a1 a2 a3 a4 a5 a6 a7 _ w ⟨h1⟩ ⟨h2⟩ ⟨h3⟩ (bne_iff_ne.mpr c3)
  ·rw [if_neg c2] at h
   obtain rfl := Option.some.inj h
   exact config_Check.walk1 k a0 a1 a2 a3 a4 a5 a6 a7 _ w ⟨h1⟩ ⟨h2⟩ (bne_iff_ne.mpr c2)
 ·rw [if_neg c1] at h
  obtain rfl := Option.some.inj h
  exact config_Check.walk0 k a0 a1 a2 a3 a4 a5 a6 a7 _ w ⟨h1⟩ (bne_iff_ne.mpr c1)

/-! ### wide_Shr: function 22 -/
def wide_Shr.f (a0_0 : Int) (a0_1 : Int) (a1 : Int) : Option (Int × Int) := if a1 ≤ 0 then (some (a0_0, a0_1)) else (if a1 < 64 then (if 0 ≤ a1 then (if 0 ≤ (wrap64 (64 - a1)) then (some (shr .u64 a0_0 a1, Go.bits .or .u64 (shr .u64 a0_1 a1) (shl .u64 a0_0 (wrap64 (64 - a1))))) else (none)) else (none)) else (if a1 < 128 then (if 0 ≤ (wrap64 (a1 - 64)) then (some (0, shr .u64 a0_0 (wrap64 (a1 - 64)))) else (none)) else (some (0, 0))))
def wide_Shr.T4 : Bool × List (List Nat × List Nat) := (true, [([], []), ([0], [0]), ([], []), ([1, 2], [1, 2]), ([], []), ([4], [4]), ([], []), ([5, 6], [5, 6]), ([], []), ([8], [8]), ([], []), ([10], [10]), ([9, 11], [9, 11]), ([7, 12], [7, 12]), ([3, 13], [3, 13]), ([14, 0, 1, 2, 3, 4, 5, 6, 7, 8, 9, 10, 11, 12, 13, 14], [14])])
def wide_Shr.B4 : List Nat := [0, 1, 0, 7, 0, 16, 0, 112, 0, 256, 0, 1024, 3840, 8176, 16383, 32767]
theorem wide_Shr.tab4 : rtab .any (opsOf Try.f22 4) = wide_Shr.T4 := by kernel_rfl
theorem wide_Shr.bits4 : waitsOk wide_Shr.T4.2 wide_Shr.B4 = true := by kernel_rfl
set_option maxHeartbeats 8000000 in
set_option maxRecDepth 100000 in
theorem wide_Shr.calls (a0_0 : Int) (a0_1 : Int) (a1 : Int) (r1 : Int) (r2 : Int) (w : World) (h : wide_Shr.f a0_0 a0_1 a1 = some (r1, r2)) :
  Calls Try.prog 22 #[.agg #[.int .u64 a0_0, .int .u64 a0_1], .int .i64 a1] w fun e w' => e = .returned (.agg #[.int .u64 r1, .int .u64 r2]) ∧ Below w.heap.size w w' := by
 have hu51 := Try.underlying51
 have HB := Aside0.mk (Below.refl w.heap.size w)
 have H : (if a1 ≤ 0 then (some (a0_0, a0_1)) else (if a1 < 64 then (if 0 ≤ a1 then (if 0 ≤ (wrap64 (64 - a1)) then (some (shr .u64 a0_0 a1, Go.bits .or .u64 (shr .u64 a0_1 a1) (shl .u64 a0_0 (wrap64 (64 - a1))))) else (none)) else (none)) else (if a1 < 128 then (if 0 ≤ (wrap64 (a1 - 64)) then (some (0, shr .u64 a0_0 (wrap64 (a1 - 64)))) else (none)) else (some (0, 0))))) = some (r1, r2) := h
 clear h
 by_cases c3 : a1 ≤ 0
 ·rw [if_pos c3] at H
  have c3b0 : decide (a1 ≤ 0) = true := decide_eq_true c3
  clear c3
  simp only [Option.some.injEq, Prod.mk.injEq] at H
  obtain ⟨rfl, rfl⟩ := H
  go_enter Try.func22, Try.ntmps22
  go_wp2_with (first | ((with_reducible refine gate_dst (N := 2) rfl ?_); refine bxA 2 #[.int .u64 a0_0, .int .u64 a0_1] 51 ?_; intro gb202 hg w4 hbox hb; have n0_ := Aside0.mk (below_step bA hb); have n1_ := Aside0.mk (hbox); have n2_ := Aside0.mk (gwA hg bA); have n3_ := Aside0.mk (gwA hg bA); clear HB; have HB := n0_; have BK202 := n1_; have GW202 := n2_; have GE202 := n3_; clear n0_ n1_ n2_ n3_ hb hbox hg) | ((with_reducible refine gate_dst (N := 4) rfl ?_); refine bxA 4 #[.int .u64 0, .int .u64 0] 51 ?_; intro gb203 hg w5 hbox hb; have n0_ := Aside0.mk (blk_below (g := gb202) kA hb); have n1_ := Aside0.mk (below_step bA hb); have n2_ := Aside0.mk (hbox); have n3_ := Aside0.mk (gwA hg bA); have n4_ := Aside0.mk (gwA hg bA); have n5_ := Aside0.mk (neA (g := gb202) hg kA); have n6_ := Aside0.mk (neB (g := gb202) hg kA); clear BK202 HB; have BK202 := n0_; have HB := n1_; have BK203 := n2_; have GW203 := n3_; have GE203 := n4_; have NB202_203 := n5_; have NB203_202 := n6_; clear n0_ n1_ n2_ n3_ n4_ n5_ n6_ hb hbox hg; have hnb6 := NB202_203.out; have hnc6 := NB203_202.out; have hcz7_0 : w5.cell? ⟨gb202, 0, none⟩ = some (.int .u64 a0_0) := (blk_cell BK202.out 0).trans rfl; have hcz7_1 : w5.cell? ⟨gb202, 1, none⟩ = some (.int .u64 a0_1) := (blk_cell BK202.out 1).trans rfl; have hfz7_0 := blk_frozen BK202.out 0; have hfz7_1 := blk_frozen BK202.out 1; have hcz8_0 : w5.cell? ⟨gb203, 0, none⟩ = some (.int .u64 0) := (blk_cell BK203.out 0).trans rfl; have hcz8_1 : w5.cell? ⟨gb203, 1, none⟩ = some (.int .u64 0) := (blk_cell BK203.out 1).trans rfl; have hfz8_0 := blk_frozen BK203.out 0; have hfz8_1 := blk_frozen BK203.out 1))
  refine bodyPost_ret (results_cell_row rfl _ _ gb203 51 #[.int .u64 a0_0, .int .u64 a0_1] (0, 0) _ rfl (by (with_reducible repeat (first | refine blk_drewN ?_ _ | refine blk_drew ?_ | refine blk_alloc ?_ _)); refine blk_put (cs := #[.int .u64 a0_0, .int .u64 0]) ?_ 1 _ rfl; (with_reducible repeat (first | refine blk_drewN ?_ _ | refine blk_drew ?_ | refine blk_alloc ?_ _)); refine blk_put (cs := #[.int .u64 0, .int .u64 0]) ?_ 0 _ rfl; exact kA) Try.underlying51 rfl (by kernel_rfl)) rfl ?_
  exact ⟨by first | rfl | (simp [errW_none, errW_some] <;> rfl) | (simp [*, errW_none, errW_some] <;> rfl), bA⟩
 ·rw [if_neg c3] at H
  have c3b0 : decide (a1 ≤ 0) = false := decide_eq_false c3
  clear c3
  by_cases c9 : a1 < 64
  ·rw [if_pos c9] at H
   have c9b0 : decide (a1 < 64) = true := decide_eq_true c9
   clear c9
   by_cases c10 : 0 ≤ a1
   ·rw [if_pos c10] at H
    have c10b0 := eq_true c10
    have c10b1 : decide (0 ≤ a1) = true := decide_eq_true c10
    clear c10
    obtain ⟨ji11, hji11⟩ : ∃ j_ : Int, (shr .u64 a0_0 a1) = j_ := ⟨_, rfl⟩
    replace H : (if 0 ≤ (wrap64 (64 - a1)) then (some (ji11, Go.bits .or .u64 (shr .u64 a0_1 a1) (shl .u64 a0_0 (wrap64 (64 - a1))))) else (none)) = some (r1, r2) := by first | (rw [hji11] at H; exact H) | (simp only [hji11] at H ⊢; exact H)
    have hji11_ : (a0_0 / 2 ^ min a1.toNat 64) = ji11 := hji11
    have hji11z : a1 ≤ 64 → (a0_0 / 2 ^ a1.toNat) = ji11 := shr_small hji11
    have c12b0 := eq_true (of_decide_eq_true (by first | (with_reducible assumption) | assumption) : 0 ≤ a1)
    obtain ⟨ji13, hji13⟩ : ∃ j_ : Int, (shr .u64 a0_1 a1) = j_ := ⟨_, rfl⟩
    replace H : (if 0 ≤ (wrap64 (64 - a1)) then (some (ji11, Go.bits .or .u64 (ji13) (shl .u64 a0_0 (wrap64 (64 - a1))))) else (none)) = some (r1, r2) := by first | (rw [hji13] at H; exact H) | (simp only [hji13] at H ⊢; exact H)
    have hji13_ : (a0_1 / 2 ^ min a1.toNat 64) = ji13 := hji13
    have hji13z : a1 ≤ 64 → (a0_1 / 2 ^ a1.toNat) = ji13 := shr_small hji13
    obtain ⟨ji14, hji14⟩ : ∃ j_ : Int, (wrap64 (64 - a1)) = j_ := ⟨_, rfl⟩
    replace H : (if 0 ≤ (ji14) then (some (ji11, Go.bits .or .u64 (ji13) (shl .u64 a0_0 (ji14)))) else (none)) = some (r1, r2) := by first | (rw [hji14] at H; exact H) | (simp only [hji14] at H ⊢; exact H)
    have hji14w : (IntKind.i64.wrap (64 - a1)) = ji14 := (i64_w _).trans hji14
    by_cases c15 : 0 ≤ (ji14)
    ·rw [if_pos c15] at H
     have c15b0 := eq_true c15
     have c15b1 : decide (0 ≤ (ji14)) = true := decide_eq_true c15
     clear c15
     obtain ⟨ji16, hji16⟩ : ∃ j_ : Int, (shl .u64 a0_0 (ji14)) = j_ := ⟨_, rfl⟩
     replace H : (some (ji11, Go.bits .or .u64 (ji13) (ji16))) = some (r1, r2) := by first | (rw [hji16] at H; exact H) | (simp only [hji16] at H ⊢; exact H)
     have hji16_ : (IntKind.u64.wrap (a0_0 * 2 ^ min (ji14).toNat 64)) = ji16 := hji16
     have hji16z : (ji14) ≤ 64 → (IntKind.u64.wrap (a0_0 * 2 ^ (ji14).toNat)) = ji16 := shl_small hji16
     simp only [Option.some.injEq, Prod.mk.injEq] at H
     obtain ⟨rfl, rfl⟩ := H
     go_enter Try.func22, Try.ntmps22
     try go_wp2_with (first | ((with_reducible refine gate_dst (N := 2) rfl ?_); refine bxA 2 #[.int .u64 a0_0, .int .u64 a0_1] 51 ?_; intro gb202 hg w17 hbox hb; have n0_ := Aside0.mk (below_step bA hb); have n1_ := Aside0.mk (hbox); have n2_ := Aside0.mk (gwA hg bA); have n3_ := Aside0.mk (gwA hg bA); clear HB; have HB := n0_; have BK202 := n1_; have GW202 := n2_; have GE202 := n3_; clear n0_ n1_ n2_ n3_ hb hbox hg) | ((with_reducible refine gate_dst (N := 4) rfl ?_); refine bxA 4 #[.int .u64 0, .int .u64 0] 51 ?_; intro gb203 hg w18 hbox hb; have n0_ := Aside0.mk (blk_below (g := gb202) kA hb); have n1_ := Aside0.mk (below_step bA hb); have n2_ := Aside0.mk (hbox); have n3_ := Aside0.mk (gwA hg bA); have n4_ := Aside0.mk (gwA hg bA); have n5_ := Aside0.mk (neA (g := gb202) hg kA); have n6_ := Aside0.mk (neB (g := gb202) hg kA); clear BK202 HB; have BK202 := n0_; have HB := n1_; have BK203 := n2_; have GW203 := n3_; have GE203 := n4_; have NB202_203 := n5_; have NB203_202 := n6_; clear n0_ n1_ n2_ n3_ n4_ n5_ n6_ hb hbox hg))
     have n0_ := Aside0.mk (blk_drew BK202.out); have n1_ := Aside0.mk (blk_drew BK203.out); have n2_ := Aside0.mk (below_drew1 HB.out); clear BK202 BK203 HB; have BK202 := n0_; have BK203 := n1_; have HB := n2_; clear n0_ n1_ n2_
     refine start_ (n := 16) (S := fun w' => w'.cell? ⟨gb202, 0, none⟩ = some (.int .u64 a0_0) ∧ w'.cell? ⟨gb202, 1, none⟩ = some (.int .u64 a0_1)) (ds := []) #[false, false, false, false, false, false, false, false, false, false, false, false, false, false, false, false] (by kernel_rfl) rfl rfl ⟨(blk_cell BK202.out 0).trans rfl, (blk_cell BK202.out 1).trans rfl⟩ (fun hHeld => ?_); refine with_tabW wide_Shr.tab4 wide_Shr.bits4 (fun HT_ HW_ => ?_)
     generalize w18.drew = w19 at BK202 BK203 HB hHeld ⊢
     refine pure_ (i := 0) (N := some 12) (v := ?_) (a' := ?_) #[true, false, false, false, false, false, false, false, false, false, false, false, false, false, false, false] rfl rfl (any_of HT_.out (by kernel_rfl)) (fun _ _ _ h => h) (Or.inl ⟨by rfl, ?_⟩) ?_ ?_
     rotate_left
     ·intro w'
      go_simp; with_reducible rfl
     rotate_left
     ·simp only [Act.put, List.setIfInBounds_toArray, List.set_cons_zero, List.set_cons_succ, i64_w, i32_w]
      rfl
     refine pure_ (i := 2) (N := some 14) (v := ?_) (a' := ?_) #[true, false, true, false, false, false, false, false, false, false, false, false, false, false, false, false] rfl rfl (any_of HT_.out (by kernel_rfl)) (fun _ _ _ h => h) (Or.inl ⟨by rfl, ?_⟩) ?_ ?_
     rotate_left
     ·intro w'
      go_simp; with_reducible rfl
     rotate_left
     ·simp only [Act.put, List.setIfInBounds_toArray, List.set_cons_zero, List.set_cons_succ, i64_w, i32_w]
      rfl
     refine pure_ (i := 4) (N := some 16) (v := ?_) (a' := ?_) #[true, false, true, false, true, false, false, false, false, false, false, false, false, false, false, false] rfl rfl (any_of HT_.out (by kernel_rfl)) (fun _ _ _ h => h) (Or.inl ⟨by rfl, ?_⟩) ?_ ?_
     rotate_left
     ·intro w'
      go_simp; with_reducible rfl
     rotate_left
     ·simp only [Act.put, List.setIfInBounds_toArray, List.set_cons_zero, List.set_cons_succ, i64_w, i32_w]
      rfl
     refine pure_ (i := 6) (N := some 18) (v := ?_) (a' := ?_) #[true, false, true, false, true, false, true, false, false, false, false, false, false, false, false, false] rfl rfl (any_of HT_.out (by kernel_rfl)) (fun _ _ _ h => h) (Or.inl ⟨by rfl, ?_⟩) ?_ ?_
     rotate_left
     ·intro w'
      go_simp; with_reducible rfl
     rotate_left
     ·simp only [Act.put, List.setIfInBounds_toArray, List.set_cons_zero, List.set_cons_succ, i64_w, i32_w]
      rfl
     refine pure_ (i := 8) (N := some 20) (v := ?_) (a' := ?_) #[true, false, true, false, true, false, true, false, true, false, false, false, false, false, false, false] rfl rfl (any_of HT_.out (by kernel_rfl)) (fun _ _ _ h => h) (Or.inl ⟨by rfl, ?_⟩) ?_ ?_
     rotate_left
     ·intro w'
      go_simp; with_reducible rfl
     rotate_left
     ·simp only [Act.put, List.setIfInBounds_toArray, List.set_cons_zero, List.set_cons_succ, i64_w, i32_w]
      rfl
     refine pure_ (i := 10) (N := some 22) (v := ?_) (a' := ?_) #[true, false, true, false, true, false, true, false, true, false, true, false, false, false, false, false] rfl rfl (any_of HT_.out (by kernel_rfl)) (fun _ _ _ h => h) (Or.inl ⟨by rfl, ?_⟩) ?_ ?_
     rotate_left
     ·intro w'
      go_simp; with_reducible rfl
     rotate_left
     ·simp only [Act.put, List.setIfInBounds_toArray, List.set_cons_zero, List.set_cons_succ, i64_w, i32_w]
      rfl
     refine pure_ (i := 11) (N := some 23) (v := ?_) (a' := ?_) #[true, false, true, false, true, false, true, false, true, false, true, true, false, false, false, false] rfl rfl (any_of HT_.out (by kernel_rfl)) (fun _ _ _ h => h) (Or.inl ⟨by rfl, ?_⟩) ?_ ?_
     rotate_left
     ·intro w'
      go_simp; with_reducible rfl
     rotate_left
     ·simp only [Act.put, List.setIfInBounds_toArray, List.set_cons_zero, List.set_cons_succ, i64_w, i32_w]
      rfl
     refine take_ (i := 1) (N := some 13) (v := ?_) (a' := ?_) #[true, true, true, false, true, false, true, false, true, false, true, true, false, false, false, false] rfl rfl (take_ofW HT_.out HW_.out (by kernel_rfl)) (fun _ _ _ h => h) (Or.inl ⟨by rfl, ?_⟩) hHeld ?_ ?_
     rotate_left
     ·rintro w' ⟨s0, s1⟩
      go_simp; with_reducible rfl
     rotate_left
     ·simp only [Act.put, List.setIfInBounds_toArray, List.set_cons_zero, List.set_cons_succ, i64_w, i32_w]
      rfl
     refine pure_ (i := 3) (N := some 15) (v := ?_) (a' := ?_) #[true, true, true, true, true, false, true, false, true, false, true, true, false, false, false, false] rfl rfl (any_of HT_.out (by kernel_rfl)) (fun _ _ _ h => h) (Or.inl ⟨by rfl, ?_⟩) ?_ ?_
     rotate_left
     ·intro w'
      go_simp; with_reducible rfl
     rotate_left
     ·simp only [Act.put, List.setIfInBounds_toArray, List.set_cons_zero, List.set_cons_succ, i64_w, i32_w]
      rfl
     refine take_ (i := 5) (N := some 17) (v := ?_) (a' := ?_) #[true, true, true, true, true, true, true, false, true, false, true, true, false, false, false, false] rfl rfl (take_ofW HT_.out HW_.out (by kernel_rfl)) (fun _ _ _ h => h) (Or.inl ⟨by rfl, ?_⟩) hHeld ?_ ?_
     rotate_left
     ·rintro w' ⟨s0, s1⟩
      go_simp; with_reducible rfl
     rotate_left
     ·simp only [Act.put, List.setIfInBounds_toArray, List.set_cons_zero, List.set_cons_succ, i64_w, i32_w]
      rfl
     refine pure_ (i := 7) (N := some 19) (v := ?_) (a' := ?_) #[true, true, true, true, true, true, true, true, true, false, true, true, false, false, false, false] rfl rfl (any_of HT_.out (by kernel_rfl)) (fun _ _ _ h => h) (Or.inl ⟨by rfl, ?_⟩) ?_ ?_
     rotate_left
     ·intro w'
      go_simp; with_reducible rfl
     rotate_left
     ·simp only [Act.put, List.setIfInBounds_toArray, List.set_cons_zero, List.set_cons_succ, i64_w, i32_w]
      rfl
     refine take_ (i := 9) (N := some 21) (v := ?_) (a' := ?_) #[true, true, true, true, true, true, true, true, true, true, true, true, false, false, false, false] rfl rfl (take_ofW HT_.out HW_.out (by kernel_rfl)) (fun _ _ _ h => h) (Or.inl ⟨by rfl, ?_⟩) hHeld ?_ ?_
     rotate_left
     ·rintro w' ⟨s0, s1⟩
      go_simp; with_reducible rfl
     rotate_left
     ·simp only [Act.put, List.setIfInBounds_toArray, List.set_cons_zero, List.set_cons_succ, i64_w, i32_w]
      rfl
     refine pure_ (i := 12) (N := some 24) (v := ?_) (a' := ?_) #[true, true, true, true, true, true, true, true, true, true, true, true, true, false, false, false] rfl rfl (any_of HT_.out (by kernel_rfl)) (fun _ _ _ h => h) (Or.inl ⟨by rfl, ?_⟩) ?_ ?_
     rotate_left
     ·intro w'
      go_simp; with_reducible rfl
     rotate_left
     ·simp only [Act.put, List.setIfInBounds_toArray, List.set_cons_zero, List.set_cons_succ, i64_w, i32_w]
      rfl
     refine pure_ (i := 13) (N := some 25) (v := ?_) (a' := ?_) #[true, true, true, true, true, true, true, true, true, true, true, true, true, true, false, false] rfl rfl (any_of HT_.out (by kernel_rfl)) (fun _ _ _ h => h) (Or.inl ⟨by rfl, ?_⟩) ?_ ?_
     rotate_left
     ·intro w'
      go_simp; with_reducible rfl
     rotate_left
     ·simp only [Act.put, List.setIfInBounds_toArray, List.set_cons_zero, List.set_cons_succ, i64_w, i32_w]
      rfl
     refine pure_ (i := 14) (N := some 26) (v := ?_) (a' := ?_) #[true, true, true, true, true, true, true, true, true, true, true, true, true, true, true, false] rfl rfl (any_of HT_.out (by kernel_rfl)) (fun _ _ _ h => h) (Or.inl ⟨by rfl, ?_⟩) ?_ ?_
     rotate_left
     ·intro w'
      go_simp; with_reducible rfl
     rotate_left
     ·simp only [Act.put, List.setIfInBounds_toArray, List.set_cons_zero, List.set_cons_succ, i64_w, i32_w]
      rfl
     refine one_ (i := 15) (N := none) #[true, true, true, true, true, true, true, true, true, true, true, true, true, true, true, true] rfl rfl (one_of HT_.out (by kernel_rfl)) (by decide) (fun K hK => ?_)
     have hs20 : w19.cell? ⟨gb203, 0, none⟩ = some (.int .u64 0) := (blk_cell BK203.out 0).trans rfl
     have hfs20 := blk_frozen BK203.out 0
     have hns20_0 := NB202_203.out
     have hms20_0 := NB203_202.out
     have hs21 : w19.cell? ⟨gb203, 1, none⟩ = some (.int .u64 0) := (blk_cell BK203.out 1).trans rfl
     have hfs21 := blk_frozen BK203.out 1
     have hns21_0 := NB202_203.out
     have hms21_0 := NB203_202.out
     refine skip_ (w1 := ?_) (by rfl) rfl ?_ ?_
     rotate_left
     ·go_simp
      rfl
     refine hK.out _ _ ⟨((cell_far (p := ⟨gb203, _, none⟩) NB202_203.out _).trans (((cell_far (p := ⟨gb203, _, none⟩) NB202_203.out _).trans (hHeld.1)))), ((cell_far (p := ⟨gb203, _, none⟩) NB202_203.out _).trans (((cell_far (p := ⟨gb203, _, none⟩) NB202_203.out _).trans (hHeld.2))))⟩ (fun hHeld => ?_)
     clear hK K
     refine done_ (done_of HT_.out (by kernel_rfl)) ?_
     try go_wp2
     refine bodyPost_ret (results_cell_row rfl _ _ gb203 51 #[.int .u64 ji11, .int .u64 (Go.bits .or .u64 (ji13) (ji16))] (0, 0) _ rfl (by (with_reducible repeat (first | refine blk_drewN ?_ _ | refine blk_drew ?_ | refine blk_alloc ?_ _)); refine blk_put (cs := #[.int .u64 ji11, .int .u64 0]) ?_ 1 _ rfl; (with_reducible repeat (first | refine blk_drewN ?_ _ | refine blk_drew ?_ | refine blk_alloc ?_ _)); refine blk_put (cs := #[.int .u64 0, .int .u64 0]) ?_ 0 _ rfl; exact kA) Try.underlying51 rfl (by kernel_rfl)) rfl ?_
     exact ⟨by first | rfl | (simp [errW_none, errW_some] <;> rfl) | (simp only [← hji11, ← hji13, ← hji14, ← hji16]; first | rfl | (simp [errW_none, errW_some] <;> rfl)) | (simp [*, errW_none, errW_some] <;> rfl), bA⟩
    ·rw [if_neg c15] at H
     exact absurd H (by simp)
   ·rw [if_neg c10] at H
    exact absurd H (by simp)
  ·rw [if_neg c9] at H
   have c9b0 : decide (a1 < 64) = false := decide_eq_false c9
   clear c9
   by_cases c22 : a1 < 128
   ·rw [if_pos c22] at H
    have c22b0 : decide (a1 < 128) = true := decide_eq_true c22
    clear c22
    obtain ⟨ji23, hji23⟩ : ∃ j_ : Int, (wrap64 (a1 - 64)) = j_ := ⟨_, rfl⟩
    replace H : (if 0 ≤ (ji23) then (some (0, shr .u64 a0_0 (ji23))) else (none)) = some (r1, r2) := by first | (rw [hji23] at H; exact H) | (simp only [hji23] at H ⊢; exact H)
    have hji23w : (IntKind.i64.wrap (a1 - 64)) = ji23 := (i64_w _).trans hji23
    by_cases c24 : 0 ≤ (ji23)
    ·rw [if_pos c24] at H
     have c24b0 := eq_true c24
     have c24b1 : decide (0 ≤ (ji23)) = true := decide_eq_true c24
     clear c24
     obtain ⟨ji25, hji25⟩ : ∃ j_ : Int, (shr .u64 a0_0 (ji23)) = j_ := ⟨_, rfl⟩
     replace H : (some (0, ji25)) = some (r1, r2) := by first | (rw [hji25] at H; exact H) | (simp only [hji25] at H ⊢; exact H)
     have hji25_ : (a0_0 / 2 ^ min (ji23).toNat 64) = ji25 := hji25
     have hji25z : (ji23) ≤ 64 → (a0_0 / 2 ^ (ji23).toNat) = ji25 := shr_small hji25
     simp only [Option.some.injEq, Prod.mk.injEq] at H
     obtain ⟨rfl, rfl⟩ := H
     go_enter Try.func22, Try.ntmps22
     go_wp2_with (first | ((with_reducible refine gate_dst (N := 2) rfl ?_); refine bxA 2 #[.int .u64 a0_0, .int .u64 a0_1] 51 ?_; intro gb202 hg w26 hbox hb; have n0_ := Aside0.mk (below_step bA hb); have n1_ := Aside0.mk (hbox); have n2_ := Aside0.mk (gwA hg bA); have n3_ := Aside0.mk (gwA hg bA); clear HB; have HB := n0_; have BK202 := n1_; have GW202 := n2_; have GE202 := n3_; clear n0_ n1_ n2_ n3_ hb hbox hg) | ((with_reducible refine gate_dst (N := 4) rfl ?_); refine bxA 4 #[.int .u64 0, .int .u64 0] 51 ?_; intro gb203 hg w27 hbox hb; have n0_ := Aside0.mk (blk_below (g := gb202) kA hb); have n1_ := Aside0.mk (below_step bA hb); have n2_ := Aside0.mk (hbox); have n3_ := Aside0.mk (gwA hg bA); have n4_ := Aside0.mk (gwA hg bA); have n5_ := Aside0.mk (neA (g := gb202) hg kA); have n6_ := Aside0.mk (neB (g := gb202) hg kA); clear BK202 HB; have BK202 := n0_; have HB := n1_; have BK203 := n2_; have GW203 := n3_; have GE203 := n4_; have NB202_203 := n5_; have NB203_202 := n6_; clear n0_ n1_ n2_ n3_ n4_ n5_ n6_ hb hbox hg; have hnb28 := NB202_203.out; have hnc28 := NB203_202.out; have hcz29_0 : w27.cell? ⟨gb202, 0, none⟩ = some (.int .u64 a0_0) := (blk_cell BK202.out 0).trans rfl; have hcz29_1 : w27.cell? ⟨gb202, 1, none⟩ = some (.int .u64 a0_1) := (blk_cell BK202.out 1).trans rfl; have hfz29_0 := blk_frozen BK202.out 0; have hfz29_1 := blk_frozen BK202.out 1; have hcz30_0 : w27.cell? ⟨gb203, 0, none⟩ = some (.int .u64 0) := (blk_cell BK203.out 0).trans rfl; have hcz30_1 : w27.cell? ⟨gb203, 1, none⟩ = some (.int .u64 0) := (blk_cell BK203.out 1).trans rfl; have hfz30_0 := blk_frozen BK203.out 0; have hfz30_1 := blk_frozen BK203.out 1))
     refine bodyPost_ret (results_cell_row rfl _ _ gb203 51 #[.int .u64 0, .int .u64 ji25] (0, 0) _ rfl (by (with_reducible repeat (first | refine blk_drewN ?_ _ | refine blk_drew ?_ | refine blk_alloc ?_ _)); refine blk_put (cs := #[.int .u64 0, .int .u64 0]) ?_ 1 _ rfl; (with_reducible repeat (first | refine blk_drewN ?_ _ | refine blk_drew ?_ | refine blk_alloc ?_ _)); refine blk_put (cs := #[.int .u64 0, .int .u64 0]) ?_ 0 _ rfl; exact kA) Try.underlying51 rfl (by kernel_rfl)) rfl ?_
     exact ⟨by first | rfl | (simp [errW_none, errW_some] <;> rfl) | (simp only [← hji23, ← hji25]; first | rfl | (simp [errW_none, errW_some] <;> rfl)) | (simp [*, errW_none, errW_some] <;> rfl), bA⟩
    ·rw [if_neg c24] at H
     exact absurd H (by simp)
   ·rw [if_neg c22] at H
    have c22b0 : decide (a1 < 128) = false := decide_eq_false c22
    clear c22
    simp only [Option.some.injEq, Prod.mk.injEq] at H
    obtain ⟨rfl, rfl⟩ := H
    go_enter Try.func22, Try.ntmps22
    go_wp2_with (first | ((with_reducible refine gate_dst (N := 2) rfl ?_); refine bxA 2 #[.int .u64 a0_0, .int .u64 a0_1] 51 ?_; intro gb202 hg w31 hbox hb; have n0_ := Aside0.mk (below_step bA hb); have n1_ := Aside0.mk (hbox); have n2_ := Aside0.mk (gwA hg bA); have n3_ := Aside0.mk (gwA hg bA); clear HB; have HB := n0_; have BK202 := n1_; have GW202 := n2_; have GE202 := n3_; clear n0_ n1_ n2_ n3_ hb hbox hg) | ((with_reducible refine gate_dst (N := 4) rfl ?_); refine bxA 4 #[.int .u64 0, .int .u64 0] 51 ?_; intro gb203 hg w32 hbox hb; have n0_ := Aside0.mk (blk_below (g := gb202) kA hb); have n1_ := Aside0.mk (below_step bA hb); have n2_ := Aside0.mk (hbox); have n3_ := Aside0.mk (gwA hg bA); have n4_ := Aside0.mk (gwA hg bA); have n5_ := Aside0.mk (neA (g := gb202) hg kA); have n6_ := Aside0.mk (neB (g := gb202) hg kA); clear BK202 HB; have BK202 := n0_; have HB := n1_; have BK203 := n2_; have GW203 := n3_; have GE203 := n4_; have NB202_203 := n5_; have NB203_202 := n6_; clear n0_ n1_ n2_ n3_ n4_ n5_ n6_ hb hbox hg; have hnb33 := NB203_202.out; have hnc33 := NB202_203.out; have hcz34_0 : w32.cell? ⟨gb203, 0, none⟩ = some (.int .u64 0) := (blk_cell BK203.out 0).trans rfl; have hcz34_1 : w32.cell? ⟨gb203, 1, none⟩ = some (.int .u64 0) := (blk_cell BK203.out 1).trans rfl; have hfz34_0 := blk_frozen BK203.out 0; have hfz34_1 := blk_frozen BK203.out 1))
    refine bodyPost_ret (results_cell_row rfl _ _ gb203 51 #[.int .u64 0, .int .u64 0] (0, 0) _ rfl (by (with_reducible repeat (first | refine blk_drewN ?_ _ | refine blk_drew ?_ | refine blk_alloc ?_ _)); refine blk_put (cs := #[.int .u64 0, .int .u64 0]) ?_ 1 _ rfl; (with_reducible repeat (first | refine blk_drewN ?_ _ | refine blk_drew ?_ | refine blk_alloc ?_ _)); refine blk_put (cs := #[.int .u64 0, .int .u64 0]) ?_ 0 _ rfl; exact kA) Try.underlying51 rfl (by kernel_rfl)) rfl ?_
    exact ⟨by first | rfl | (simp [errW_none, errW_some] <;> rfl) | (simp [*, errW_none, errW_some] <;> rfl), bA⟩

end Go.Proofs.Ytodibpddlibneaa.GPT
