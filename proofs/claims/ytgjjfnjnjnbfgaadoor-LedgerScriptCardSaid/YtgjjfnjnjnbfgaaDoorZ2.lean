/- The texts of this claim, put together by program, what it does not name left out: part 2. Conditions: each theorem's own. -/
import Derived.Test.YtgjjfnjnjnbfgaaDoorZ1
namespace Go.Proofs.YtgjjfnjnjnbfgaaDoor.GLG
open Go.RowKit Go.Proofs.YtgjjfnjnjnbfgaaDoorW.PrintWords Go.Proofs.YtgjjfnjnjnbfgaaDoorW.PrintLast Go.Proofs.YtgjjfnjnjnbfgaaDoorW.PrintMore
attribute [local go_sem] max2_int min2_int max_two min_two max_three min_three max_four min_four   -- for this text's walks alone
set_option linter.unusedVariables false
set_option linter.unusedSimpArgs false
def config_Check.f (k : Nat) (a0 a1 a2 a3 a4 a5 a6 a7 : Int) : Option Int:=(config_asked_ranges.f k a0 a1 a2 a3 a4 a5 a6 a7).bind fun e1 => if e1 = 0 then ((config_asked_usage.f a0 a1 a2 a3 a4 a5 a6 a7).bind fun e2 => if e2 = 0 then ((config_asked_scale.f a0 a1 a2 a3 a4 a5 a6 a7).bind fun e3 => if e3 = 0 then (config_asked_off.f a0 a1 a2 a3 a4 a5 a6 a7) else some e3) else some e2) else some e1
set_option maxHeartbeats 8000000 in
set_option maxRecDepth 100000 in
theorem config_Check.walk0 (k : Nat) (a0 a1 a2 a3 a4 a5 a6 a7 r : Int) (w : World) (A0 : Aside0 (config_asked_ranges.f k a0 a1 a2 a3 a4 a5 a6 a7 = some r)) (c2b0 : (r != 0) = true) :
  Calls Tryd.prog 19 #[.agg #[.int .i64 a0,.int .i64 a1,.int .i64 a2,.int .i64 a3,.int .i64 a4,.int .i64 a5,.int .i64 a6,.int .i64 a7]] w fun e w' => e = .returned (.int .i64 r) ∧ Below w.heap.size w w':=by
 have hu39:=Tryd.underlying23
 have hu78:=Tryd.underlying77
 have hmf : ∀ (fn : Fn) (first cap : Array Value) (w : World),(Instr.makeFunc fn first cap).run Tryd.prog w = .ok (.func fn first cap) w:=fun _ _ _ _ => rfl
 have hix0 : ∀ (x0 x1 x2 x3 : Value) (w : World),(Instr.index 79 (.agg #[x0,x1,x2,x3]) (.int .i64 0)).run Tryd.prog w = .ok x0 w:=by intros;kernel_rfl
 have HB:=Aside0.mk (Below.refl w.heap.size w)
 go_enter Tryd.func19,Tryd.ntmps19
 go_wp2_with (first | ((with_reducible refine gate_dst (N:=1) rfl ?_);refine bxA 1 #[.int .i64 a0,.int .i64 a1,.int .i64 a2,.int .i64 a3,.int .i64 a4,.int .i64 a5,.int .i64 a6,.int .i64 a7] 23 ?_;intro gb1 hg w5 hbox hb;have n0_:=Aside0.mk (below_step bA hb);have n1_:=Aside0.mk (hbox);have n2_:=Aside0.mk (gwA hg bA);clear HB;have HB:=n0_;have BKgb1:=n1_;have GE1:=n2_;clear n0_ n1_ n2_ hb hbox hg;have hcz1_0 : w5.cell? ⟨gb1,0,none⟩ = some (.int .i64 a0):=(blk_cell BKgb1.out 0).trans rfl;have hcz1_1 : w5.cell? ⟨gb1,1,none⟩ = some (.int .i64 a1):=(blk_cell BKgb1.out 1).trans rfl;have hcz1_2 : w5.cell? ⟨gb1,2,none⟩ = some (.int .i64 a2):=(blk_cell BKgb1.out 2).trans rfl;have hcz1_3 : w5.cell? ⟨gb1,3,none⟩ = some (.int .i64 a3):=(blk_cell BKgb1.out 3).trans rfl;have hcz1_4 : w5.cell? ⟨gb1,4,none⟩ = some (.int .i64 a4):=(blk_cell BKgb1.out 4).trans rfl;have hcz1_5 : w5.cell? ⟨gb1,5,none⟩ = some (.int .i64 a5):=(blk_cell BKgb1.out 5).trans rfl;have hcz1_6 : w5.cell? ⟨gb1,6,none⟩ = some (.int .i64 a6):=(blk_cell BKgb1.out 6).trans rfl;have hcz1_7 : w5.cell? ⟨gb1,7,none⟩ = some (.int .i64 a7):=(blk_cell BKgb1.out 7).trans rfl;have hfz1_0:=blk_frozen BKgb1.out 0;have hfz1_1:=blk_frozen BKgb1.out 1;have hfz1_2:=blk_frozen BKgb1.out 2;have hfz1_3:=blk_frozen BKgb1.out 3;have hfz1_4:=blk_frozen BKgb1.out 4;have hfz1_5:=blk_frozen BKgb1.out 5;have hfz1_6:=blk_frozen BKgb1.out 6;have hfz1_7:=blk_frozen BKgb1.out 7) | ((with_reducible refine gate_dst (N:=3) rfl ?_);refine bxA 3 #[.int .i64 0,.int .i64 0,.int .i64 0,.int .i64 0,.int .i64 0,.int .i64 0,.int .i64 0,.int .i64 0] 77 ?_;intro gb2 hg w6 hbox hb;have n0_:=Aside0.mk (below_step bA hb);have n1_:=Aside0.mk (hbox);have n2_:=Aside0.mk (gwA hg bA);clear HB;have HB:=n0_;have BKgb2:=n1_;have GE2:=n2_;clear n0_ n1_ n2_ hb hbox hg;have hcy0 : w6.cell? ⟨gb2,0,none⟩ = some (.int .i64 0):=(blk_cell BKgb2.out 0).trans rfl;have hcy1 : w6.cell? ⟨gb2,1,none⟩ = some (.int .i64 0):=(blk_cell BKgb2.out 1).trans rfl;have hcy2 : w6.cell? ⟨gb2,2,none⟩ = some (.int .i64 0):=(blk_cell BKgb2.out 2).trans rfl;have hcy3 : w6.cell? ⟨gb2,3,none⟩ = some (.int .i64 0):=(blk_cell BKgb2.out 3).trans rfl;have hcy4 : w6.cell? ⟨gb2,4,none⟩ = some (.int .i64 0):=(blk_cell BKgb2.out 4).trans rfl;have hcy5 : w6.cell? ⟨gb2,5,none⟩ = some (.int .i64 0):=(blk_cell BKgb2.out 5).trans rfl;have hcy6 : w6.cell? ⟨gb2,6,none⟩ = some (.int .i64 0):=(blk_cell BKgb2.out 6).trans rfl;have hcy7 : w6.cell? ⟨gb2,7,none⟩ = some (.int .i64 0):=(blk_cell BKgb2.out 7).trans rfl;have hfy0:=blk_frozen BKgb2.out 0;have hfy1:=blk_frozen BKgb2.out 1;have hfy2:=blk_frozen BKgb2.out 2;have hfy3:=blk_frozen BKgb2.out 3;have hfy4:=blk_frozen BKgb2.out 4;have hfy5:=blk_frozen BKgb2.out 5;have hfy6:=blk_frozen BKgb2.out 6;have hfy7:=blk_frozen BKgb2.out 7))
 have HB1:=Aside0.mk (show Below w.heap.size w _ from bA (W:=((((((((w6.setCell ⟨gb2,0,none⟩ (.int .i64 a0)).setCell ⟨gb2,1,none⟩ (.int .i64 a1)).setCell ⟨gb2,2,none⟩ (.int .i64 a2)).setCell ⟨gb2,3,none⟩ (.int .i64 a3)).setCell ⟨gb2,4,none⟩ (.int .i64 a4)).setCell ⟨gb2,5,none⟩ (.int .i64 a5)).setCell ⟨gb2,6,none⟩ (.int .i64 a6)).setCell ⟨gb2,7,none⟩ (.int .i64 a7))));clear HB
 have HB:=HB1
 clear HB1
 generalize ((((((((w6.setCell ⟨gb2,0,none⟩ (.int .i64 a0)).setCell ⟨gb2,1,none⟩ (.int .i64 a1)).setCell ⟨gb2,2,none⟩ (.int .i64 a2)).setCell ⟨gb2,3,none⟩ (.int .i64 a3)).setCell ⟨gb2,4,none⟩ (.int .i64 a4)).setCell ⟨gb2,5,none⟩ (.int .i64 a5)).setCell ⟨gb2,6,none⟩ (.int .i64 a6)).setCell ⟨gb2,7,none⟩ (.int .i64 a7)) = w7 at HB ⊢
 refine wp_loop_rounds 5 ?_
 rw [rounds_succ]
 go_wp2_with fail
 refine (config_asked_ranges.calls k a0 a1 a2 a3 a4 a5 a6 a7 r _ A0.out).mono ?_
 rintro e w20 ⟨rfl,hb⟩
 have n0_:=Aside0.mk (below_step bA hb);clear HB;have HB:=n0_;clear n0_ hb
 go_wp2_with fail
 go_ret
 exact ⟨by first | rfl | (simp [errW_none,errW_some] <;> rfl) | (simp [*,errW_none,errW_some] <;> rfl),bA⟩
set_option maxHeartbeats 8000000 in
set_option maxRecDepth 100000 in
theorem config_Check.walk1 (k : Nat) (a0 a1 a2 a3 a4 a5 a6 a7 r : Int) (w : World) (A0 : Aside0 (config_asked_ranges.f k a0 a1 a2 a3 a4 a5 a6 a7 = some 0)) (A1 : Aside0 (config_asked_usage.f a0 a1 a2 a3 a4 a5 a6 a7 = some r)) (c2b0 : (r != 0) = true) :
  Calls Tryd.prog 19 #[.agg #[.int .i64 a0,.int .i64 a1,.int .i64 a2,.int .i64 a3,.int .i64 a4,.int .i64 a5,.int .i64 a6,.int .i64 a7]] w fun e w' => e = .returned (.int .i64 r) ∧ Below w.heap.size w w':=by
 have hu39:=Tryd.underlying23
 have hu78:=Tryd.underlying77
 have hmf : ∀ (fn : Fn) (first cap : Array Value) (w : World),(Instr.makeFunc fn first cap).run Tryd.prog w = .ok (.func fn first cap) w:=fun _ _ _ _ => rfl
 have hix0 : ∀ (x0 x1 x2 x3 : Value) (w : World),(Instr.index 79 (.agg #[x0,x1,x2,x3]) (.int .i64 0)).run Tryd.prog w = .ok x0 w:=by intros;kernel_rfl
 have hix1 : ∀ (x0 x1 x2 x3 : Value) (w : World),(Instr.index 79 (.agg #[x0,x1,x2,x3]) (.int .i64 1)).run Tryd.prog w = .ok x1 w:=by intros;kernel_rfl
 have HB:=Aside0.mk (Below.refl w.heap.size w)
 go_enter Tryd.func19,Tryd.ntmps19
 go_wp2_with (first | ((with_reducible refine gate_dst (N:=1) rfl ?_);refine bxA 1 #[.int .i64 a0,.int .i64 a1,.int .i64 a2,.int .i64 a3,.int .i64 a4,.int .i64 a5,.int .i64 a6,.int .i64 a7] 23 ?_;intro gb1 hg w5 hbox hb;have n0_:=Aside0.mk (below_step bA hb);have n1_:=Aside0.mk (hbox);have n2_:=Aside0.mk (gwA hg bA);clear HB;have HB:=n0_;have BKgb1:=n1_;have GE1:=n2_;clear n0_ n1_ n2_ hb hbox hg;have hcz1_0 : w5.cell? ⟨gb1,0,none⟩ = some (.int .i64 a0):=(blk_cell BKgb1.out 0).trans rfl;have hcz1_1 : w5.cell? ⟨gb1,1,none⟩ = some (.int .i64 a1):=(blk_cell BKgb1.out 1).trans rfl;have hcz1_2 : w5.cell? ⟨gb1,2,none⟩ = some (.int .i64 a2):=(blk_cell BKgb1.out 2).trans rfl;have hcz1_3 : w5.cell? ⟨gb1,3,none⟩ = some (.int .i64 a3):=(blk_cell BKgb1.out 3).trans rfl;have hcz1_4 : w5.cell? ⟨gb1,4,none⟩ = some (.int .i64 a4):=(blk_cell BKgb1.out 4).trans rfl;have hcz1_5 : w5.cell? ⟨gb1,5,none⟩ = some (.int .i64 a5):=(blk_cell BKgb1.out 5).trans rfl;have hcz1_6 : w5.cell? ⟨gb1,6,none⟩ = some (.int .i64 a6):=(blk_cell BKgb1.out 6).trans rfl;have hcz1_7 : w5.cell? ⟨gb1,7,none⟩ = some (.int .i64 a7):=(blk_cell BKgb1.out 7).trans rfl;have hfz1_0:=blk_frozen BKgb1.out 0;have hfz1_1:=blk_frozen BKgb1.out 1;have hfz1_2:=blk_frozen BKgb1.out 2;have hfz1_3:=blk_frozen BKgb1.out 3;have hfz1_4:=blk_frozen BKgb1.out 4;have hfz1_5:=blk_frozen BKgb1.out 5;have hfz1_6:=blk_frozen BKgb1.out 6;have hfz1_7:=blk_frozen BKgb1.out 7) | ((with_reducible refine gate_dst (N:=3) rfl ?_);refine bxA 3 #[.int .i64 0,.int .i64 0,.int .i64 0,.int .i64 0,.int .i64 0,.int .i64 0,.int .i64 0,.int .i64 0] 77 ?_;intro gb2 hg w6 hbox hb;have n0_:=Aside0.mk (below_step bA hb);have n1_:=Aside0.mk (hbox);have n2_:=Aside0.mk (gwA hg bA);clear HB;have HB:=n0_;have BKgb2:=n1_;have GE2:=n2_;clear n0_ n1_ n2_ hb hbox hg;have hcy0 : w6.cell? ⟨gb2,0,none⟩ = some (.int .i64 0):=(blk_cell BKgb2.out 0).trans rfl;have hcy1 : w6.cell? ⟨gb2,1,none⟩ = some (.int .i64 0):=(blk_cell BKgb2.out 1).trans rfl;have hcy2 : w6.cell? ⟨gb2,2,none⟩ = some (.int .i64 0):=(blk_cell BKgb2.out 2).trans rfl;have hcy3 : w6.cell? ⟨gb2,3,none⟩ = some (.int .i64 0):=(blk_cell BKgb2.out 3).trans rfl;have hcy4 : w6.cell? ⟨gb2,4,none⟩ = some (.int .i64 0):=(blk_cell BKgb2.out 4).trans rfl;have hcy5 : w6.cell? ⟨gb2,5,none⟩ = some (.int .i64 0):=(blk_cell BKgb2.out 5).trans rfl;have hcy6 : w6.cell? ⟨gb2,6,none⟩ = some (.int .i64 0):=(blk_cell BKgb2.out 6).trans rfl;have hcy7 : w6.cell? ⟨gb2,7,none⟩ = some (.int .i64 0):=(blk_cell BKgb2.out 7).trans rfl;have hfy0:=blk_frozen BKgb2.out 0;have hfy1:=blk_frozen BKgb2.out 1;have hfy2:=blk_frozen BKgb2.out 2;have hfy3:=blk_frozen BKgb2.out 3;have hfy4:=blk_frozen BKgb2.out 4;have hfy5:=blk_frozen BKgb2.out 5;have hfy6:=blk_frozen BKgb2.out 6;have hfy7:=blk_frozen BKgb2.out 7))
 have HB1:=Aside0.mk (show Below w.heap.size w _ from bA (W:=((((((((w6.setCell ⟨gb2,0,none⟩ (.int .i64 a0)).setCell ⟨gb2,1,none⟩ (.int .i64 a1)).setCell ⟨gb2,2,none⟩ (.int .i64 a2)).setCell ⟨gb2,3,none⟩ (.int .i64 a3)).setCell ⟨gb2,4,none⟩ (.int .i64 a4)).setCell ⟨gb2,5,none⟩ (.int .i64 a5)).setCell ⟨gb2,6,none⟩ (.int .i64 a6)).setCell ⟨gb2,7,none⟩ (.int .i64 a7))));clear HB
 have HB:=HB1
 clear HB1
 generalize ((((((((w6.setCell ⟨gb2,0,none⟩ (.int .i64 a0)).setCell ⟨gb2,1,none⟩ (.int .i64 a1)).setCell ⟨gb2,2,none⟩ (.int .i64 a2)).setCell ⟨gb2,3,none⟩ (.int .i64 a3)).setCell ⟨gb2,4,none⟩ (.int .i64 a4)).setCell ⟨gb2,5,none⟩ (.int .i64 a5)).setCell ⟨gb2,6,none⟩ (.int .i64 a6)).setCell ⟨gb2,7,none⟩ (.int .i64 a7)) = w7 at HB ⊢
 refine wp_loop_rounds 5 ?_
 rw [rounds_succ]
 go_wp2_with fail
 refine (config_asked_ranges.calls k a0 a1 a2 a3 a4 a5 a6 a7 0 _ A0.out).mono ?_
 rintro e w20 ⟨rfl,hb⟩
 have n0_:=Aside0.mk (below_step bA hb);clear HB;have HB:=n0_;clear n0_ hb
 go_wp2_with fail
 rw [rounds_succ]
 go_wp2_with fail
 refine (config_asked_usage.calls a0 a1 a2 a3 a4 a5 a6 a7 r _ A1.out).mono ?_
 rintro e w21 ⟨rfl,hb⟩
 have n0_:=Aside0.mk (below_step bA hb);clear HB;have HB:=n0_;clear n0_ hb
 go_wp2_with fail
 go_ret
 exact ⟨by first | rfl | (simp [errW_none,errW_some] <;> rfl) | (simp [*,errW_none,errW_some] <;> rfl),bA⟩
set_option maxHeartbeats 8000000 in
set_option maxRecDepth 100000 in
theorem config_Check.walk2 (k : Nat) (a0 a1 a2 a3 a4 a5 a6 a7 r : Int) (w : World) (A0 : Aside0 (config_asked_ranges.f k a0 a1 a2 a3 a4 a5 a6 a7 = some 0)) (A1 : Aside0 (config_asked_usage.f a0 a1 a2 a3 a4 a5 a6 a7 = some 0)) (A2 : Aside0 (config_asked_scale.f a0 a1 a2 a3 a4 a5 a6 a7 = some r)) (c2b0 : (r != 0) = true) :
  Calls Tryd.prog 19 #[.agg #[.int .i64 a0,.int .i64 a1,.int .i64 a2,.int .i64 a3,.int .i64 a4,.int .i64 a5,.int .i64 a6,.int .i64 a7]] w fun e w' => e = .returned (.int .i64 r) ∧ Below w.heap.size w w':=by
 have hu39:=Tryd.underlying23
 have hu78:=Tryd.underlying77
 have hmf : ∀ (fn : Fn) (first cap : Array Value) (w : World),(Instr.makeFunc fn first cap).run Tryd.prog w = .ok (.func fn first cap) w:=fun _ _ _ _ => rfl
 have hix0 : ∀ (x0 x1 x2 x3 : Value) (w : World),(Instr.index 79 (.agg #[x0,x1,x2,x3]) (.int .i64 0)).run Tryd.prog w = .ok x0 w:=by intros;kernel_rfl
 have hix1 : ∀ (x0 x1 x2 x3 : Value) (w : World),(Instr.index 79 (.agg #[x0,x1,x2,x3]) (.int .i64 1)).run Tryd.prog w = .ok x1 w:=by intros;kernel_rfl
 have hix2 : ∀ (x0 x1 x2 x3 : Value) (w : World),(Instr.index 79 (.agg #[x0,x1,x2,x3]) (.int .i64 2)).run Tryd.prog w = .ok x2 w:=by intros;kernel_rfl
 have HB:=Aside0.mk (Below.refl w.heap.size w)
 go_enter Tryd.func19,Tryd.ntmps19
 go_wp2_with (first | ((with_reducible refine gate_dst (N:=1) rfl ?_);refine bxA 1 #[.int .i64 a0,.int .i64 a1,.int .i64 a2,.int .i64 a3,.int .i64 a4,.int .i64 a5,.int .i64 a6,.int .i64 a7] 23 ?_;intro gb1 hg w5 hbox hb;have n0_:=Aside0.mk (below_step bA hb);have n1_:=Aside0.mk (hbox);have n2_:=Aside0.mk (gwA hg bA);clear HB;have HB:=n0_;have BKgb1:=n1_;have GE1:=n2_;clear n0_ n1_ n2_ hb hbox hg;have hcz1_0 : w5.cell? ⟨gb1,0,none⟩ = some (.int .i64 a0):=(blk_cell BKgb1.out 0).trans rfl;have hcz1_1 : w5.cell? ⟨gb1,1,none⟩ = some (.int .i64 a1):=(blk_cell BKgb1.out 1).trans rfl;have hcz1_2 : w5.cell? ⟨gb1,2,none⟩ = some (.int .i64 a2):=(blk_cell BKgb1.out 2).trans rfl;have hcz1_3 : w5.cell? ⟨gb1,3,none⟩ = some (.int .i64 a3):=(blk_cell BKgb1.out 3).trans rfl;have hcz1_4 : w5.cell? ⟨gb1,4,none⟩ = some (.int .i64 a4):=(blk_cell BKgb1.out 4).trans rfl;have hcz1_5 : w5.cell? ⟨gb1,5,none⟩ = some (.int .i64 a5):=(blk_cell BKgb1.out 5).trans rfl;have hcz1_6 : w5.cell? ⟨gb1,6,none⟩ = some (.int .i64 a6):=(blk_cell BKgb1.out 6).trans rfl;have hcz1_7 : w5.cell? ⟨gb1,7,none⟩ = some (.int .i64 a7):=(blk_cell BKgb1.out 7).trans rfl;have hfz1_0:=blk_frozen BKgb1.out 0;have hfz1_1:=blk_frozen BKgb1.out 1;have hfz1_2:=blk_frozen BKgb1.out 2;have hfz1_3:=blk_frozen BKgb1.out 3;have hfz1_4:=blk_frozen BKgb1.out 4;have hfz1_5:=blk_frozen BKgb1.out 5;have hfz1_6:=blk_frozen BKgb1.out 6;have hfz1_7:=blk_frozen BKgb1.out 7) | ((with_reducible refine gate_dst (N:=3) rfl ?_);refine bxA 3 #[.int .i64 0,.int .i64 0,.int .i64 0,.int .i64 0,.int .i64 0,.int .i64 0,.int .i64 0,.int .i64 0] 77 ?_;intro gb2 hg w6 hbox hb;have n0_:=Aside0.mk (below_step bA hb);have n1_:=Aside0.mk (hbox);have n2_:=Aside0.mk (gwA hg bA);clear HB;have HB:=n0_;have BKgb2:=n1_;have GE2:=n2_;clear n0_ n1_ n2_ hb hbox hg;have hcy0 : w6.cell? ⟨gb2,0,none⟩ = some (.int .i64 0):=(blk_cell BKgb2.out 0).trans rfl;have hcy1 : w6.cell? ⟨gb2,1,none⟩ = some (.int .i64 0):=(blk_cell BKgb2.out 1).trans rfl;have hcy2 : w6.cell? ⟨gb2,2,none⟩ = some (.int .i64 0):=(blk_cell BKgb2.out 2).trans rfl;have hcy3 : w6.cell? ⟨gb2,3,none⟩ = some (.int .i64 0):=(blk_cell BKgb2.out 3).trans rfl;have hcy4 : w6.cell? ⟨gb2,4,none⟩ = some (.int .i64 0):=(blk_cell BKgb2.out 4).trans rfl;have hcy5 : w6.cell? ⟨gb2,5,none⟩ = some (.int .i64 0):=(blk_cell BKgb2.out 5).trans rfl;have hcy6 : w6.cell? ⟨gb2,6,none⟩ = some (.int .i64 0):=(blk_cell BKgb2.out 6).trans rfl;have hcy7 : w6.cell? ⟨gb2,7,none⟩ = some (.int .i64 0):=(blk_cell BKgb2.out 7).trans rfl;have hfy0:=blk_frozen BKgb2.out 0;have hfy1:=blk_frozen BKgb2.out 1;have hfy2:=blk_frozen BKgb2.out 2;have hfy3:=blk_frozen BKgb2.out 3;have hfy4:=blk_frozen BKgb2.out 4;have hfy5:=blk_frozen BKgb2.out 5;have hfy6:=blk_frozen BKgb2.out 6;have hfy7:=blk_frozen BKgb2.out 7))
 have HB1:=Aside0.mk (show Below w.heap.size w _ from bA (W:=((((((((w6.setCell ⟨gb2,0,none⟩ (.int .i64 a0)).setCell ⟨gb2,1,none⟩ (.int .i64 a1)).setCell ⟨gb2,2,none⟩ (.int .i64 a2)).setCell ⟨gb2,3,none⟩ (.int .i64 a3)).setCell ⟨gb2,4,none⟩ (.int .i64 a4)).setCell ⟨gb2,5,none⟩ (.int .i64 a5)).setCell ⟨gb2,6,none⟩ (.int .i64 a6)).setCell ⟨gb2,7,none⟩ (.int .i64 a7))));clear HB
 have HB:=HB1
 clear HB1
 generalize ((((((((w6.setCell ⟨gb2,0,none⟩ (.int .i64 a0)).setCell ⟨gb2,1,none⟩ (.int .i64 a1)).setCell ⟨gb2,2,none⟩ (.int .i64 a2)).setCell ⟨gb2,3,none⟩ (.int .i64 a3)).setCell ⟨gb2,4,none⟩ (.int .i64 a4)).setCell ⟨gb2,5,none⟩ (.int .i64 a5)).setCell ⟨gb2,6,none⟩ (.int .i64 a6)).setCell ⟨gb2,7,none⟩ (.int .i64 a7)) = w7 at HB ⊢
 refine wp_loop_rounds 5 ?_
 rw [rounds_succ]
 go_wp2_with fail
 refine (config_asked_ranges.calls k a0 a1 a2 a3 a4 a5 a6 a7 0 _ A0.out).mono ?_
 rintro e w20 ⟨rfl,hb⟩
 have n0_:=Aside0.mk (below_step bA hb);clear HB;have HB:=n0_;clear n0_ hb
 go_wp2_with fail
 rw [rounds_succ]
 go_wp2_with fail
 refine (config_asked_usage.calls a0 a1 a2 a3 a4 a5 a6 a7 0 _ A1.out).mono ?_
 rintro e w21 ⟨rfl,hb⟩
 have n0_:=Aside0.mk (below_step bA hb);clear HB;have HB:=n0_;clear n0_ hb
 go_wp2_with fail
 rw [rounds_succ]
 go_wp2_with fail
 refine (config_asked_scale.calls a0 a1 a2 a3 a4 a5 a6 a7 r _ A2.out).mono ?_
 rintro e w22 ⟨rfl,hb⟩
 have n0_:=Aside0.mk (below_step bA hb);clear HB;have HB:=n0_;clear n0_ hb
 go_wp2_with fail
 go_ret
 exact ⟨by first | rfl | (simp [errW_none,errW_some] <;> rfl) | (simp [*,errW_none,errW_some] <;> rfl),bA⟩
set_option maxHeartbeats 8000000 in
set_option maxRecDepth 100000 in
theorem config_Check.walk3 (k : Nat) (a0 a1 a2 a3 a4 a5 a6 a7 r : Int) (w : World) (A0 : Aside0 (config_asked_ranges.f k a0 a1 a2 a3 a4 a5 a6 a7 = some 0)) (A1 : Aside0 (config_asked_usage.f a0 a1 a2 a3 a4 a5 a6 a7 = some 0)) (A2 : Aside0 (config_asked_scale.f a0 a1 a2 a3 a4 a5 a6 a7 = some 0)) (A3 : Aside0 (config_asked_off.f a0 a1 a2 a3 a4 a5 a6 a7 = some r)) (c2b0 : (r != 0) = true) :
  Calls Tryd.prog 19 #[.agg #[.int .i64 a0,.int .i64 a1,.int .i64 a2,.int .i64 a3,.int .i64 a4,.int .i64 a5,.int .i64 a6,.int .i64 a7]] w fun e w' => e = .returned (.int .i64 r) ∧ Below w.heap.size w w':=by
 have hu39:=Tryd.underlying23
 have hu78:=Tryd.underlying77
 have hmf : ∀ (fn : Fn) (first cap : Array Value) (w : World),(Instr.makeFunc fn first cap).run Tryd.prog w = .ok (.func fn first cap) w:=fun _ _ _ _ => rfl
 have hix0 : ∀ (x0 x1 x2 x3 : Value) (w : World),(Instr.index 79 (.agg #[x0,x1,x2,x3]) (.int .i64 0)).run Tryd.prog w = .ok x0 w:=by intros;kernel_rfl
 have hix1 : ∀ (x0 x1 x2 x3 : Value) (w : World),(Instr.index 79 (.agg #[x0,x1,x2,x3]) (.int .i64 1)).run Tryd.prog w = .ok x1 w:=by intros;kernel_rfl
 have hix2 : ∀ (x0 x1 x2 x3 : Value) (w : World),(Instr.index 79 (.agg #[x0,x1,x2,x3]) (.int .i64 2)).run Tryd.prog w = .ok x2 w:=by intros;kernel_rfl
 have hix3 : ∀ (x0 x1 x2 x3 : Value) (w : World),(Instr.index 79 (.agg #[x0,x1,x2,x3]) (.int .i64 3)).run Tryd.prog w = .ok x3 w:=by intros;kernel_rfl
 have HB:=Aside0.mk (Below.refl w.heap.size w)
 go_enter Tryd.func19,Tryd.ntmps19
 go_wp2_with (first | ((with_reducible refine gate_dst (N:=1) rfl ?_);refine bxA 1 #[.int .i64 a0,.int .i64 a1,.int .i64 a2,.int .i64 a3,.int .i64 a4,.int .i64 a5,.int .i64 a6,.int .i64 a7] 23 ?_;intro gb1 hg w5 hbox hb;have n0_:=Aside0.mk (below_step bA hb);have n1_:=Aside0.mk (hbox);have n2_:=Aside0.mk (gwA hg bA);clear HB;have HB:=n0_;have BKgb1:=n1_;have GE1:=n2_;clear n0_ n1_ n2_ hb hbox hg;have hcz1_0 : w5.cell? ⟨gb1,0,none⟩ = some (.int .i64 a0):=(blk_cell BKgb1.out 0).trans rfl;have hcz1_1 : w5.cell? ⟨gb1,1,none⟩ = some (.int .i64 a1):=(blk_cell BKgb1.out 1).trans rfl;have hcz1_2 : w5.cell? ⟨gb1,2,none⟩ = some (.int .i64 a2):=(blk_cell BKgb1.out 2).trans rfl;have hcz1_3 : w5.cell? ⟨gb1,3,none⟩ = some (.int .i64 a3):=(blk_cell BKgb1.out 3).trans rfl;have hcz1_4 : w5.cell? ⟨gb1,4,none⟩ = some (.int .i64 a4):=(blk_cell BKgb1.out 4).trans rfl;have hcz1_5 : w5.cell? ⟨gb1,5,none⟩ = some (.int .i64 a5):=(blk_cell BKgb1.out 5).trans rfl;have hcz1_6 : w5.cell? ⟨gb1,6,none⟩ = some (.int .i64 a6):=(blk_cell BKgb1.out 6).trans rfl;have hcz1_7 : w5.cell? ⟨gb1,7,none⟩ = some (.int .i64 a7):=(blk_cell BKgb1.out 7).trans rfl;have hfz1_0:=blk_frozen BKgb1.out 0;have hfz1_1:=blk_frozen BKgb1.out 1;have hfz1_2:=blk_frozen BKgb1.out 2;have hfz1_3:=blk_frozen BKgb1.out 3;have hfz1_4:=blk_frozen BKgb1.out 4;have hfz1_5:=blk_frozen BKgb1.out 5;have hfz1_6:=blk_frozen BKgb1.out 6;have hfz1_7:=blk_frozen BKgb1.out 7) | ((with_reducible refine gate_dst (N:=3) rfl ?_);refine bxA 3 #[.int .i64 0,.int .i64 0,.int .i64 0,.int .i64 0,.int .i64 0,.int .i64 0,.int .i64 0,.int .i64 0] 77 ?_;intro gb2 hg w6 hbox hb;have n0_:=Aside0.mk (below_step bA hb);have n1_:=Aside0.mk (hbox);have n2_:=Aside0.mk (gwA hg bA);clear HB;have HB:=n0_;have BKgb2:=n1_;have GE2:=n2_;clear n0_ n1_ n2_ hb hbox hg;have hcy0 : w6.cell? ⟨gb2,0,none⟩ = some (.int .i64 0):=(blk_cell BKgb2.out 0).trans rfl;have hcy1 : w6.cell? ⟨gb2,1,none⟩ = some (.int .i64 0):=(blk_cell BKgb2.out 1).trans rfl;have hcy2 : w6.cell? ⟨gb2,2,none⟩ = some (.int .i64 0):=(blk_cell BKgb2.out 2).trans rfl;have hcy3 : w6.cell? ⟨gb2,3,none⟩ = some (.int .i64 0):=(blk_cell BKgb2.out 3).trans rfl;have hcy4 : w6.cell? ⟨gb2,4,none⟩ = some (.int .i64 0):=(blk_cell BKgb2.out 4).trans rfl;have hcy5 : w6.cell? ⟨gb2,5,none⟩ = some (.int .i64 0):=(blk_cell BKgb2.out 5).trans rfl;have hcy6 : w6.cell? ⟨gb2,6,none⟩ = some (.int .i64 0):=(blk_cell BKgb2.out 6).trans rfl;have hcy7 : w6.cell? ⟨gb2,7,none⟩ = some (.int .i64 0):=(blk_cell BKgb2.out 7).trans rfl;have hfy0:=blk_frozen BKgb2.out 0;have hfy1:=blk_frozen BKgb2.out 1;have hfy2:=blk_frozen BKgb2.out 2;have hfy3:=blk_frozen BKgb2.out 3;have hfy4:=blk_frozen BKgb2.out 4;have hfy5:=blk_frozen BKgb2.out 5;have hfy6:=blk_frozen BKgb2.out 6;have hfy7:=blk_frozen BKgb2.out 7))
 have HB1:=Aside0.mk (show Below w.heap.size w _ from bA (W:=((((((((w6.setCell ⟨gb2,0,none⟩ (.int .i64 a0)).setCell ⟨gb2,1,none⟩ (.int .i64 a1)).setCell ⟨gb2,2,none⟩ (.int .i64 a2)).setCell ⟨gb2,3,none⟩ (.int .i64 a3)).setCell ⟨gb2,4,none⟩ (.int .i64 a4)).setCell ⟨gb2,5,none⟩ (.int .i64 a5)).setCell ⟨gb2,6,none⟩ (.int .i64 a6)).setCell ⟨gb2,7,none⟩ (.int .i64 a7))));clear HB
 have HB:=HB1
 clear HB1
 generalize ((((((((w6.setCell ⟨gb2,0,none⟩ (.int .i64 a0)).setCell ⟨gb2,1,none⟩ (.int .i64 a1)).setCell ⟨gb2,2,none⟩ (.int .i64 a2)).setCell ⟨gb2,3,none⟩ (.int .i64 a3)).setCell ⟨gb2,4,none⟩ (.int .i64 a4)).setCell ⟨gb2,5,none⟩ (.int .i64 a5)).setCell ⟨gb2,6,none⟩ (.int .i64 a6)).setCell ⟨gb2,7,none⟩ (.int .i64 a7)) = w7 at HB ⊢
 refine wp_loop_rounds 5 ?_
 rw [rounds_succ]
 go_wp2_with fail
 refine (config_asked_ranges.calls k a0 a1 a2 a3 a4 a5 a6 a7 0 _ A0.out).mono ?_
 rintro e w20 ⟨rfl,hb⟩
 have n0_:=Aside0.mk (below_step bA hb);clear HB;have HB:=n0_;clear n0_ hb
 go_wp2_with fail
 rw [rounds_succ]
 go_wp2_with fail
 refine (config_asked_usage.calls a0 a1 a2 a3 a4 a5 a6 a7 0 _ A1.out).mono ?_
 rintro e w21 ⟨rfl,hb⟩
 have n0_:=Aside0.mk (below_step bA hb);clear HB;have HB:=n0_;clear n0_ hb
 go_wp2_with fail
 rw [rounds_succ]
 go_wp2_with fail
 refine (config_asked_scale.calls a0 a1 a2 a3 a4 a5 a6 a7 0 _ A2.out).mono ?_
 rintro e w22 ⟨rfl,hb⟩
 have n0_:=Aside0.mk (below_step bA hb);clear HB;have HB:=n0_;clear n0_ hb
 go_wp2_with fail
 rw [rounds_succ]
 go_wp2_with fail
 refine (config_asked_off.calls a0 a1 a2 a3 a4 a5 a6 a7 r _ A3.out).mono ?_
 rintro e w23 ⟨rfl,hb⟩
 have n0_:=Aside0.mk (below_step bA hb);clear HB;have HB:=n0_;clear n0_ hb
 go_wp2_with fail
 go_ret
 exact ⟨by first | rfl | (simp [errW_none,errW_some] <;> rfl) | (simp [*,errW_none,errW_some] <;> rfl),bA⟩
set_option maxHeartbeats 8000000 in
set_option maxRecDepth 100000 in
theorem config_Check.walk4 (k : Nat) (a0 a1 a2 a3 a4 a5 a6 a7 : Int) (w : World) (A0 : Aside0 (config_asked_ranges.f k a0 a1 a2 a3 a4 a5 a6 a7 = some 0)) (A1 : Aside0 (config_asked_usage.f a0 a1 a2 a3 a4 a5 a6 a7 = some 0)) (A2 : Aside0 (config_asked_scale.f a0 a1 a2 a3 a4 a5 a6 a7 = some 0)) (A3 : Aside0 (config_asked_off.f a0 a1 a2 a3 a4 a5 a6 a7 = some 0)) :
  Calls Tryd.prog 19 #[.agg #[.int .i64 a0,.int .i64 a1,.int .i64 a2,.int .i64 a3,.int .i64 a4,.int .i64 a5,.int .i64 a6,.int .i64 a7]] w fun e w' => e = .returned (.int .i64 0) ∧ Below w.heap.size w w':=by
 have hu39:=Tryd.underlying23
 have hu78:=Tryd.underlying77
 have hmf : ∀ (fn : Fn) (first cap : Array Value) (w : World),(Instr.makeFunc fn first cap).run Tryd.prog w = .ok (.func fn first cap) w:=fun _ _ _ _ => rfl
 have hix0 : ∀ (x0 x1 x2 x3 : Value) (w : World),(Instr.index 79 (.agg #[x0,x1,x2,x3]) (.int .i64 0)).run Tryd.prog w = .ok x0 w:=by intros;kernel_rfl
 have hix1 : ∀ (x0 x1 x2 x3 : Value) (w : World),(Instr.index 79 (.agg #[x0,x1,x2,x3]) (.int .i64 1)).run Tryd.prog w = .ok x1 w:=by intros;kernel_rfl
 have hix2 : ∀ (x0 x1 x2 x3 : Value) (w : World),(Instr.index 79 (.agg #[x0,x1,x2,x3]) (.int .i64 2)).run Tryd.prog w = .ok x2 w:=by intros;kernel_rfl
 have hix3 : ∀ (x0 x1 x2 x3 : Value) (w : World),(Instr.index 79 (.agg #[x0,x1,x2,x3]) (.int .i64 3)).run Tryd.prog w = .ok x3 w:=by intros;kernel_rfl
 have HB:=Aside0.mk (Below.refl w.heap.size w)
 go_enter Tryd.func19,Tryd.ntmps19
 go_wp2_with (first | ((with_reducible refine gate_dst (N:=1) rfl ?_);refine bxA 1 #[.int .i64 a0,.int .i64 a1,.int .i64 a2,.int .i64 a3,.int .i64 a4,.int .i64 a5,.int .i64 a6,.int .i64 a7] 23 ?_;intro gb1 hg w5 hbox hb;have n0_:=Aside0.mk (below_step bA hb);have n1_:=Aside0.mk (hbox);have n2_:=Aside0.mk (gwA hg bA);clear HB;have HB:=n0_;have BKgb1:=n1_;have GE1:=n2_;clear n0_ n1_ n2_ hb hbox hg;have hcz1_0 : w5.cell? ⟨gb1,0,none⟩ = some (.int .i64 a0):=(blk_cell BKgb1.out 0).trans rfl;have hcz1_1 : w5.cell? ⟨gb1,1,none⟩ = some (.int .i64 a1):=(blk_cell BKgb1.out 1).trans rfl;have hcz1_2 : w5.cell? ⟨gb1,2,none⟩ = some (.int .i64 a2):=(blk_cell BKgb1.out 2).trans rfl;have hcz1_3 : w5.cell? ⟨gb1,3,none⟩ = some (.int .i64 a3):=(blk_cell BKgb1.out 3).trans rfl;have hcz1_4 : w5.cell? ⟨gb1,4,none⟩ = some (.int .i64 a4):=(blk_cell BKgb1.out 4).trans rfl;have hcz1_5 : w5.cell? ⟨gb1,5,none⟩ = some (.int .i64 a5):=(blk_cell BKgb1.out 5).trans rfl;have hcz1_6 : w5.cell? ⟨gb1,6,none⟩ = some (.int .i64 a6):=(blk_cell BKgb1.out 6).trans rfl;have hcz1_7 : w5.cell? ⟨gb1,7,none⟩ = some (.int .i64 a7):=(blk_cell BKgb1.out 7).trans rfl;have hfz1_0:=blk_frozen BKgb1.out 0;have hfz1_1:=blk_frozen BKgb1.out 1;have hfz1_2:=blk_frozen BKgb1.out 2;have hfz1_3:=blk_frozen BKgb1.out 3;have hfz1_4:=blk_frozen BKgb1.out 4;have hfz1_5:=blk_frozen BKgb1.out 5;have hfz1_6:=blk_frozen BKgb1.out 6;have hfz1_7:=blk_frozen BKgb1.out 7) | ((with_reducible refine gate_dst (N:=3) rfl ?_);refine bxA 3 #[.int .i64 0,.int .i64 0,.int .i64 0,.int .i64 0,.int .i64 0,.int .i64 0,.int .i64 0,.int .i64 0] 77 ?_;intro gb2 hg w6 hbox hb;have n0_:=Aside0.mk (below_step bA hb);have n1_:=Aside0.mk (hbox);have n2_:=Aside0.mk (gwA hg bA);clear HB;have HB:=n0_;have BKgb2:=n1_;have GE2:=n2_;clear n0_ n1_ n2_ hb hbox hg;have hcy0 : w6.cell? ⟨gb2,0,none⟩ = some (.int .i64 0):=(blk_cell BKgb2.out 0).trans rfl;have hcy1 : w6.cell? ⟨gb2,1,none⟩ = some (.int .i64 0):=(blk_cell BKgb2.out 1).trans rfl;have hcy2 : w6.cell? ⟨gb2,2,none⟩ = some (.int .i64 0):=(blk_cell BKgb2.out 2).trans rfl;have hcy3 : w6.cell? ⟨gb2,3,none⟩ = some (.int .i64 0):=(blk_cell BKgb2.out 3).trans rfl;have hcy4 : w6.cell? ⟨gb2,4,none⟩ = some (.int .i64 0):=(blk_cell BKgb2.out 4).trans rfl;have hcy5 : w6.cell? ⟨gb2,5,none⟩ = some (.int .i64 0):=(blk_cell BKgb2.out 5).trans rfl;have hcy6 : w6.cell? ⟨gb2,6,none⟩ = some (.int .i64 0):=(blk_cell BKgb2.out 6).trans rfl;have hcy7 : w6.cell? ⟨gb2,7,none⟩ = some (.int .i64 0):=(blk_cell BKgb2.out 7).trans rfl;have hfy0:=blk_frozen BKgb2.out 0;have hfy1:=blk_frozen BKgb2.out 1;have hfy2:=blk_frozen BKgb2.out 2;have hfy3:=blk_frozen BKgb2.out 3;have hfy4:=blk_frozen BKgb2.out 4;have hfy5:=blk_frozen BKgb2.out 5;have hfy6:=blk_frozen BKgb2.out 6;have hfy7:=blk_frozen BKgb2.out 7))
 have HB1:=Aside0.mk (show Below w.heap.size w _ from bA (W:=((((((((w6.setCell ⟨gb2,0,none⟩ (.int .i64 a0)).setCell ⟨gb2,1,none⟩ (.int .i64 a1)).setCell ⟨gb2,2,none⟩ (.int .i64 a2)).setCell ⟨gb2,3,none⟩ (.int .i64 a3)).setCell ⟨gb2,4,none⟩ (.int .i64 a4)).setCell ⟨gb2,5,none⟩ (.int .i64 a5)).setCell ⟨gb2,6,none⟩ (.int .i64 a6)).setCell ⟨gb2,7,none⟩ (.int .i64 a7))));clear HB
 have HB:=HB1
 clear HB1
 generalize ((((((((w6.setCell ⟨gb2,0,none⟩ (.int .i64 a0)).setCell ⟨gb2,1,none⟩ (.int .i64 a1)).setCell ⟨gb2,2,none⟩ (.int .i64 a2)).setCell ⟨gb2,3,none⟩ (.int .i64 a3)).setCell ⟨gb2,4,none⟩ (.int .i64 a4)).setCell ⟨gb2,5,none⟩ (.int .i64 a5)).setCell ⟨gb2,6,none⟩ (.int .i64 a6)).setCell ⟨gb2,7,none⟩ (.int .i64 a7)) = w7 at HB ⊢
 refine wp_loop_rounds 5 ?_
 rw [rounds_succ]
 go_wp2_with fail
 refine (config_asked_ranges.calls k a0 a1 a2 a3 a4 a5 a6 a7 0 _ A0.out).mono ?_
 rintro e w20 ⟨rfl,hb⟩
 have n0_:=Aside0.mk (below_step bA hb);clear HB;have HB:=n0_;clear n0_ hb
 go_wp2_with fail
 rw [rounds_succ]
 go_wp2_with fail
 refine (config_asked_usage.calls a0 a1 a2 a3 a4 a5 a6 a7 0 _ A1.out).mono ?_
 rintro e w21 ⟨rfl,hb⟩
 have n0_:=Aside0.mk (below_step bA hb);clear HB;have HB:=n0_;clear n0_ hb
 go_wp2_with fail
 rw [rounds_succ]
 go_wp2_with fail
 refine (config_asked_scale.calls a0 a1 a2 a3 a4 a5 a6 a7 0 _ A2.out).mono ?_
 rintro e w22 ⟨rfl,hb⟩
 have n0_:=Aside0.mk (below_step bA hb);clear HB;have HB:=n0_;clear n0_ hb
 go_wp2_with fail
 rw [rounds_succ]
 go_wp2_with fail
 refine (config_asked_off.calls a0 a1 a2 a3 a4 a5 a6 a7 0 _ A3.out).mono ?_
 rintro e w23 ⟨rfl,hb⟩
 have n0_:=Aside0.mk (below_step bA hb);clear HB;have HB:=n0_;clear n0_ hb
 go_wp2_with fail
 rw [rounds_succ]
 go_wp2
 go_ret
 exact ⟨by first | rfl | (simp [errW_none,errW_some] <;> rfl) | (simp [*,errW_none,errW_some] <;> rfl),bA⟩
theorem config_Check.calls (k : Nat) (a0 a1 a2 a3 a4 a5 a6 a7 r : Int) (w : World) (h : config_Check.f k a0 a1 a2 a3 a4 a5 a6 a7 = some r) :
  Calls Tryd.prog 19 #[.agg #[.int .i64 a0,.int .i64 a1,.int .i64 a2,.int .i64 a3,.int .i64 a4,.int .i64 a5,.int .i64 a6,.int .i64 a7]] w fun e w' => e = .returned (.int .i64 r) ∧ Below w.heap.size w w':=by
 unfold config_Check.f at h
 obtain ⟨e1,h1,h⟩:=Option.bind_eq_some_iff.mp h
 by_cases c1 : e1 = 0
 ·rw [if_pos c1] at h
  subst c1
  obtain ⟨e2,h2,h⟩:=Option.bind_eq_some_iff.mp h
  by_cases c2 : e2 = 0
  ·rw [if_pos c2] at h
   subst c2
   obtain ⟨e3,h3,h⟩:=Option.bind_eq_some_iff.mp h
   by_cases c3 : e3 = 0
   ·rw [if_pos c3] at h
    subst c3
    by_cases c4 : r = 0
    ·subst c4
     exact config_Check.walk4 k a0 a1 a2 a3 a4 a5 a6 a7 w ⟨h1⟩ ⟨h2⟩ ⟨h3⟩ ⟨h⟩
    ·exact config_Check.walk3 k a0 a1 a2 a3 a4 a5 a6 a7 r w ⟨h1⟩ ⟨h2⟩ ⟨h3⟩ ⟨h⟩ (bne_iff_ne.mpr c4)
   ·rw [if_neg c3] at h
    obtain rfl:=Option.some.inj h
    exact config_Check.walk2 k a0 a1 a2 a3 a4 a5 a6 a7 _ w ⟨h1⟩ ⟨h2⟩ ⟨h3⟩ (bne_iff_ne.mpr c3)
  ·rw [if_neg c2] at h
   obtain rfl:=Option.some.inj h
   exact config_Check.walk1 k a0 a1 a2 a3 a4 a5 a6 a7 _ w ⟨h1⟩ ⟨h2⟩ (bne_iff_ne.mpr c2)
 ·rw [if_neg c1] at h
  obtain rfl:=Option.some.inj h
  exact config_Check.walk0 k a0 a1 a2 a3 a4 a5 a6 a7 _ w ⟨h1⟩ (bne_iff_ne.mpr c1)

def ladder_Half.go : Nat → Int → Int → Option Int
 | 0,_,t => some t
 | d + 1,e,t => if Go.bits .and .u64 e (IntKind.u64.wrap (2 ^ d)) = 0 then ladder_Half.go d e t else (wide_Mul.f t (rd rungsL ((31 - d : Nat) : Int))).bind fun p => ladder_Half.go d e p.1
/-- One half to the power of e / 2^32. -/
def ladder_Half.f (a0 : Int) : Option Int:=if a0 / 4294967296 ≥ 63 then some 0 else (if 0 ≤ a0 then (ladder_Half.go 32 a0 9223372036854775808).bind fun t => some (t / 2 ^ (a0 / 4294967296).toNat) else none)
set_option maxHeartbeats 8000000 in
set_option maxRecDepth 100000 in
theorem ladder_Half.calls (a0 : Int) (r : Int) (w : World) (hL : LaidW w) (h : ladder_Half.f a0 = some r) :
  Calls Tryd.prog 51 #[.int .u64 a0] w fun e w' => e = .returned (.int .u64 r) ∧ Below w.heap.size w w':=by
 have hfd : ∀ (x y : Int) (W : World),(Instr.field 87 (.agg #[.int .u64 x,.int .u64 y]) 0).run Tryd.prog W = .ok (.int .u64 x) W:=by intros;kernel_rfl
 have HB:=Aside0.mk (Below.refl w.heap.size w)
 have H : (if a0 / 4294967296 ≥ 63 then some 0 else (if 0 ≤ a0 then (ladder_Half.go 32 a0 9223372036854775808).bind fun t => some (t / 2 ^ (a0 / 4294967296).toNat) else none)) = some r:=h
 clear h
 by_cases c2 : a0 / 4294967296 ≥ 63
 ·rw [if_pos c2] at H
  have c2b0 : decide (63 ≤ (a0 / 4294967296)) = true:=decide_eq_true c2
  clear c2
  obtain rfl:=Option.some.inj H
  go_enter Tryd.func51,Tryd.ntmps51
  go_wp2
  go_ret
  exact ⟨rfl,bA⟩
 ·rw [if_neg c2] at H
  by_cases c3 : 0 ≤ a0
  ·rw [if_pos c3] at H
   have c2b0 : decide (63 ≤ (a0 / 4294967296)) = false:=decide_eq_false c2
   have q0 : 0 ≤ a0 / 4294967296:=by omega
   have q1 : a0 / 4294967296 ≤ 62:=by omega
   clear c2
   obtain ⟨t,A30,H⟩:=Option.bind_eq_some_iff.mp H
   have A3:=Aside0.mk A30;clear A30
   have H':=Aside0.mk (Option.some.inj H)
   clear H
   go_enter Tryd.func51,Tryd.ntmps51
   go_wp2
   go_loopg [4,10] 32 (fun kq v4 v10 w' => ∃ (x4 : Int) (j : Nat),v4 = .int .u64 x4 ∧ v10 = .int .i64 (j : Int) ∧ Aside0 (j + kq = 32) ∧ j ≤ 32 ∧ Aside0 (ladder_Half.go kq a0 x4 = some t) ∧ Aside0 (Below w.heap.size w w'))
   case atStart => exact ⟨9223372036854775808,0,rfl,rfl,⟨rfl⟩,by omega,A3,⟨bA⟩⟩
   case round =>
    obtain ⟨x4,j,rfl,rfl,HD,hj,HA,HB⟩:=hrel
    cases gk with
    | zero =>
     have HD:=HD.out
     have hx : x4 = t:=Option.some.inj HA.out
     subst hx
     obtain rfl : j = 32:=by omega
     clear HD
     go_wp2
     go_ret
     exact ⟨by rw [← H'.out];rfl,bA⟩
    | succ d =>
     have HD1:=HD.out
     have hj31 : j ≤ 31:=by omega
     have hlt : decide ((j : Int) < 32) = true:=decide_eq_true (by omega)
     obtain rfl : d = 31 - j:=by omega
     have hc : wr.cell? ⟨0,j,none⟩ = some (.int .u64 (rd rungsL (j : Int))):=laid_below hL HB.out j (by omega)
     have H:=HA.out
     clear HA HD1 HD
     simp only [ladder_Half.go] at H
     rw [show 31 - (31 - j) = j by omega] at H
     by_cases c5 : Go.bits .and .u64 a0 (IntKind.u64.wrap (2 ^ (31 - j))) = 0
     ·rw [if_pos c5] at H
      have c5b1 : (Go.bits .and .u64 a0 (IntKind.u64.wrap (2 ^ (31 - j))) != 0) = false:=bne_eq_false_iff_eq.mpr c5
      clear c5
      have H2:=Aside0.mk H
      clear H
      go_wp2
      go_roundg (31 - j)
      case measure => omega
      case rel => exact ⟨x4,j + 1,rfl,by go_num,⟨by omega⟩,by omega,H2,⟨bA⟩⟩
     ·rw [if_neg c5] at H
      have c5b1 : (Go.bits .and .u64 a0 (IntKind.u64.wrap (2 ^ (31 - j))) != 0) = true:=bne_iff_ne.mpr c5
      clear c5
      obtain ⟨⟨p1,p2⟩,A130,H⟩:=Option.bind_eq_some_iff.mp H
      have A13:=Aside0.mk A130
      have H2:=Aside0.mk H
      clear A130 H
      go_wp2_with (first | ((with_reducible refine gate_callee (f:=73) rfl ?_);refine goesL_ (some 23) rfl rfl Tryd.func73 (by kernel_rfl) rfl #[.int .u64 x4,.int .u64 (rd rungsL (j : Int))] rfl aA ?_;(with_reducible refine (wide_Mul.calls x4 (rd rungsL (j : Int)) p1 p2 _ A13.out).mono ?_);rintro e w15 ⟨rfl,hb⟩;refine ⟨_,rfl,?_⟩;have n1_:=Aside0.mk (below_step bA hb);clear HB;have HB:=n1_;clear n1_ hb hc))
      go_roundg (31 - j)
      case measure => omega
      case rel => exact ⟨p1,j + 1,rfl,by go_num,⟨by omega⟩,by omega,H2,⟨bA⟩⟩
  ·rw [if_neg c3] at H
   cases H

def decay_Factor.f (a0 : Int) (a1 : Int) : Option (Int × Int):=if a0 < 1 then (some (0,100)) else (if a0 > 1048576 then (some (0,100)) else (if a1 < 1 then (some (0,100)) else (if a1 > 1073741824 then (some (0,100)) else (if (IntKind.u64.wrap (a1)) = 0 then (none) else ((ladder_Half.f (IntKind.u64.wrap (Int.tdiv (IntKind.u64.wrap ((IntKind.u64.wrap (a0)) * 4294967296)) (IntKind.u64.wrap (a1))))).bind fun t202 => (some (t202,0)))))))
set_option maxHeartbeats 8000000 in
set_option maxRecDepth 100000 in
theorem decay_Factor.calls (a0 : Int) (a1 : Int) (r1 : Int) (r2 : Int) (w : World) (hL : LaidW w) (h : decay_Factor.f a0 a1 = some (r1,r2)) :
  Calls Tryd.prog 30 #[.int .i64 a0,.int .i64 a1] w fun e w' => e = .returned (.tuple #[.int .u64 r1,.int .i64 r2]) ∧ Below w.heap.size w w':=by
 have HB:=Aside0.mk (Below.refl w.heap.size w)
 have H : (if a0 < 1 then (some (0,100)) else (if a0 > 1048576 then (some (0,100)) else (if a1 < 1 then (some (0,100)) else (if a1 > 1073741824 then (some (0,100)) else (if (IntKind.u64.wrap (a1)) = 0 then (none) else ((ladder_Half.f (IntKind.u64.wrap (Int.tdiv (IntKind.u64.wrap ((IntKind.u64.wrap (a0)) * 4294967296)) (IntKind.u64.wrap (a1))))).bind fun t202 => (some (t202,0)))))))) = some (r1,r2):=h
 clear h
 by_cases c3 : a0 < 1
 ·rw [if_pos c3] at H
  have c3b0 : decide (a0 < 1) = true:=decide_eq_true c3
  clear c3
  simp only [Option.some.injEq,Prod.mk.injEq] at H
  obtain ⟨rfl,rfl⟩:=H
  go_enter Tryd.func30,Tryd.ntmps30
  go_wp2
  go_ret2
  exact ⟨by first | rfl | (simp [errW_none,errW_some] <;> rfl) | (simp [*,errW_none,errW_some] <;> rfl),bA⟩
 ·rw [if_neg c3] at H
  have c3b0 : decide (a0 < 1) = false:=decide_eq_false c3
  clear c3
  by_cases c4 : a0 > 1048576
  ·rw [if_pos c4] at H
   have c4b0 : decide (1048576 < a0) = true:=decide_eq_true c4
   clear c4
   simp only [Option.some.injEq,Prod.mk.injEq] at H
   obtain ⟨rfl,rfl⟩:=H
   go_enter Tryd.func30,Tryd.ntmps30
   go_wp2
   go_ret2
   exact ⟨by first | rfl | (simp [errW_none,errW_some] <;> rfl) | (simp [*,errW_none,errW_some] <;> rfl),bA⟩
  ·rw [if_neg c4] at H
   have c4b0 : decide (1048576 < a0) = false:=decide_eq_false c4
   clear c4
   by_cases c5 : a1 < 1
   ·rw [if_pos c5] at H
    have c5b0 : decide (a1 < 1) = true:=decide_eq_true c5
    clear c5
    simp only [Option.some.injEq,Prod.mk.injEq] at H
    obtain ⟨rfl,rfl⟩:=H
    go_enter Tryd.func30,Tryd.ntmps30
    go_wp2
    go_ret2
    exact ⟨by first | rfl | (simp [errW_none,errW_some] <;> rfl) | (simp [*,errW_none,errW_some] <;> rfl),bA⟩
   ·rw [if_neg c5] at H
    have c5b0 : decide (a1 < 1) = false:=decide_eq_false c5
    clear c5
    by_cases c6 : a1 > 1073741824
    ·rw [if_pos c6] at H
     have c6b0 : decide (1073741824 < a1) = true:=decide_eq_true c6
     clear c6
     simp only [Option.some.injEq,Prod.mk.injEq] at H
     obtain ⟨rfl,rfl⟩:=H
     go_enter Tryd.func30,Tryd.ntmps30
     go_wp2
     go_ret2
     exact ⟨by first | rfl | (simp [errW_none,errW_some] <;> rfl) | (simp [*,errW_none,errW_some] <;> rfl),bA⟩
    ·rw [if_neg c6] at H
     have c6b0 : decide (1073741824 < a1) = false:=decide_eq_false c6
     clear c6
     by_cases c7 : (IntKind.u64.wrap (a1)) = 0
     ·rw [if_pos c7] at H
      exact absurd H (by simp)
     ·rw [if_neg c7] at H
      have c7b0 : ((IntKind.u64.wrap (a1)) == 0) = false:=beq_eq_false_iff_ne.mpr c7
      have c7b1 : ((IntKind.u64.wrap (a1)) != 0) = true:=bne_iff_ne.mpr c7
      replace H:=Option.bind_eq_some_iff.mp H;obtain ⟨t202,A80,H⟩:=H;replace H : (some (t202,0)) = some (r1,r2):=H;have A8:=Aside0.mk A80;clear A80
      simp only [Option.some.injEq,Prod.mk.injEq] at H
      obtain ⟨rfl,rfl⟩:=H
      go_enter Tryd.func30,Tryd.ntmps30
      go_wp2_with (first | ((with_reducible refine gate_callee (f:=51) rfl ?_);refine goesL_ (some 26) rfl rfl Tryd.func51 (by kernel_rfl) rfl #[.int .u64 (IntKind.u64.wrap (Int.tdiv (IntKind.u64.wrap ((IntKind.u64.wrap (a0)) * 4294967296)) (IntKind.u64.wrap (a1))))] rfl aA ?_;(with_reducible refine (ladder_Half.calls (IntKind.u64.wrap (Int.tdiv (IntKind.u64.wrap ((IntKind.u64.wrap (a0)) * 4294967296)) (IntKind.u64.wrap (a1)))) t202 _ ?side1 A8.out).mono ?_);(case side1 => exact laid_below hL bA);rintro e w9 ⟨rfl,hb⟩;refine ⟨_,rfl,?_⟩;have n0_:=Aside0.mk (below_step bA hb);clear HB;have HB:=n0_;clear n0_;(try clear hb)))
      go_ret2
      exact ⟨by first | rfl | (simp [errW_none,errW_some] <;> rfl) | (simp [*,errW_none,errW_some] <;> rfl),bA⟩




def wide_Shr.f (a0_0 : Int) (a0_1 : Int) (a1 : Int) : Option (Int × Int):=if a1 ≤ 0 then (some (a0_0,a0_1)) else (if a1 < 64 then (if 0 ≤ a1 then (if 0 ≤ (wrap64 (64 - a1)) then (some (shr .u64 a0_0 a1,Go.bits .or .u64 (shr .u64 a0_1 a1) (shl .u64 a0_0 (wrap64 (64 - a1))))) else (none)) else (none)) else (if a1 < 128 then (if 0 ≤ (wrap64 (a1 - 64)) then (some (0,shr .u64 a0_0 (wrap64 (a1 - 64)))) else (none)) else (some (0,0))))
def wide_Shr.T4 : Bool × List (List Nat × List Nat):=(true,[([],[]),([0],[0]),([],[]),([1,2],[1,2]),([],[]),([4],[4]),([],[]),([5,6],[5,6]),([],[]),([8],[8]),([],[]),([10],[10]),([9,11],[9,11]),([7,12],[7,12]),([3,13],[3,13]),([14,0,1,2,3,4,5,6,7,8,9,10,11,12,13,14],[14])])
def wide_Shr.B4 : List Nat:=[0,1,0,7,0,16,0,112,0,256,0,1024,3840,8176,16383,32767]
theorem wide_Shr.tab4 : rtab .any (opsOf Tryd.f94 4) = wide_Shr.T4:=by kernel_rfl
theorem wide_Shr.bits4 : waitsOk wide_Shr.T4.2 wide_Shr.B4 = true:=by kernel_rfl
set_option maxHeartbeats 8000000 in
set_option maxRecDepth 100000 in
theorem wide_Shr.calls (a0_0 : Int) (a0_1 : Int) (a1 : Int) (r1 : Int) (r2 : Int) (w : World) (h : wide_Shr.f a0_0 a0_1 a1 = some (r1,r2)) :
  Calls Tryd.prog 94 #[.agg #[.int .u64 a0_0,.int .u64 a0_1],.int .i64 a1] w fun e w' => e = .returned (.agg #[.int .u64 r1,.int .u64 r2]) ∧ Below w.heap.size w w':=by
 have hu87:=Tryd.underlying87
 have HB:=Aside0.mk (Below.refl w.heap.size w)
 have H : (if a1 ≤ 0 then (some (a0_0,a0_1)) else (if a1 < 64 then (if 0 ≤ a1 then (if 0 ≤ (wrap64 (64 - a1)) then (some (shr .u64 a0_0 a1,Go.bits .or .u64 (shr .u64 a0_1 a1) (shl .u64 a0_0 (wrap64 (64 - a1))))) else (none)) else (none)) else (if a1 < 128 then (if 0 ≤ (wrap64 (a1 - 64)) then (some (0,shr .u64 a0_0 (wrap64 (a1 - 64)))) else (none)) else (some (0,0))))) = some (r1,r2):=h
 clear h
 by_cases c3 : a1 ≤ 0
 ·rw [if_pos c3] at H
  have c3b0 : decide (a1 ≤ 0) = true:=decide_eq_true c3
  clear c3
  simp only [Option.some.injEq,Prod.mk.injEq] at H
  obtain ⟨rfl,rfl⟩:=H
  go_enter Tryd.func94,Tryd.ntmps94
  go_wp2_with (first | ((with_reducible refine gate_dst (N:=2) rfl ?_);refine bxA 2 #[.int .u64 a0_0,.int .u64 a0_1] 87 ?_;intro gb203 hg w4 hbox hb;have n0_:=Aside0.mk (below_step bA hb);have n1_:=Aside0.mk (hbox);have n2_:=Aside0.mk (gwA hg bA);have n3_:=Aside0.mk (gwA hg bA);clear HB;have HB:=n0_;have BK203:=n1_;have GW203:=n2_;have GE203:=n3_;clear n0_ n1_ n2_ n3_ hb hbox hg) | ((with_reducible refine gate_dst (N:=4) rfl ?_);refine bxA 4 #[.int .u64 0,.int .u64 0] 87 ?_;intro gb204 hg w5 hbox hb;have n0_:=Aside0.mk (blk_below (g:=gb203) kA hb);have n1_:=Aside0.mk (below_step bA hb);have n2_:=Aside0.mk (hbox);have n3_:=Aside0.mk (gwA hg bA);have n4_:=Aside0.mk (gwA hg bA);have n5_:=Aside0.mk (neA (g:=gb203) hg kA);have n6_:=Aside0.mk (neB (g:=gb203) hg kA);clear BK203 HB;have BK203:=n0_;have HB:=n1_;have BK204:=n2_;have GW204:=n3_;have GE204:=n4_;have NB203_204:=n5_;have NB204_203:=n6_;clear n0_ n1_ n2_ n3_ n4_ n5_ n6_ hb hbox hg;have hnb6:=NB203_204.out;have hnc6:=NB204_203.out;have hcz7_0 : w5.cell? ⟨gb203,0,none⟩ = some (.int .u64 a0_0):=(blk_cell BK203.out 0).trans rfl;have hcz7_1 : w5.cell? ⟨gb203,1,none⟩ = some (.int .u64 a0_1):=(blk_cell BK203.out 1).trans rfl;have hfz7_0:=blk_frozen BK203.out 0;have hfz7_1:=blk_frozen BK203.out 1;have hcz8_0 : w5.cell? ⟨gb204,0,none⟩ = some (.int .u64 0):=(blk_cell BK204.out 0).trans rfl;have hcz8_1 : w5.cell? ⟨gb204,1,none⟩ = some (.int .u64 0):=(blk_cell BK204.out 1).trans rfl;have hfz8_0:=blk_frozen BK204.out 0;have hfz8_1:=blk_frozen BK204.out 1))
  refine bodyPost_ret (results_cell_row rfl _ _ gb204 87 #[.int .u64 a0_0,.int .u64 a0_1] (0,0) _ rfl (by (with_reducible repeat (first | refine blk_drewN ?_ _ | refine blk_drew ?_ | refine blk_alloc ?_ _));refine blk_put (cs:=#[.int .u64 a0_0,.int .u64 0]) ?_ 1 _ rfl;(with_reducible repeat (first | refine blk_drewN ?_ _ | refine blk_drew ?_ | refine blk_alloc ?_ _));refine blk_put (cs:=#[.int .u64 0,.int .u64 0]) ?_ 0 _ rfl;exact kA) Tryd.underlying87 rfl (by kernel_rfl)) rfl ?_
  exact ⟨by first | rfl | (simp [errW_none,errW_some] <;> rfl) | (simp [*,errW_none,errW_some] <;> rfl),bA⟩
 ·rw [if_neg c3] at H
  have c3b0 : decide (a1 ≤ 0) = false:=decide_eq_false c3
  clear c3
  by_cases c9 : a1 < 64
  ·rw [if_pos c9] at H
   have c9b0 : decide (a1 < 64) = true:=decide_eq_true c9
   clear c9
   by_cases c10 : 0 ≤ a1
   ·rw [if_pos c10] at H
    have c10b0:=eq_true c10
    have c10b1 : decide (0 ≤ a1) = true:=decide_eq_true c10
    clear c10
    obtain ⟨ji11,hji11⟩ : ∃ j_ : Int,(shr .u64 a0_0 a1) = j_:=⟨_,rfl⟩
    replace H : (if 0 ≤ (wrap64 (64 - a1)) then (some (ji11,Go.bits .or .u64 (shr .u64 a0_1 a1) (shl .u64 a0_0 (wrap64 (64 - a1))))) else (none)) = some (r1,r2):=by first | (rw [hji11] at H;exact H) | (simp only [hji11] at H ⊢;exact H)
    have hji11_ : (a0_0 / 2 ^ min a1.toNat 64) = ji11:=hji11
    have hji11z : a1 ≤ 64 → (a0_0 / 2 ^ a1.toNat) = ji11:=shr_small hji11
    have c12b0:=eq_true (of_decide_eq_true (by first | (with_reducible assumption) | assumption) : 0 ≤ a1)
    obtain ⟨ji13,hji13⟩ : ∃ j_ : Int,(shr .u64 a0_1 a1) = j_:=⟨_,rfl⟩
    replace H : (if 0 ≤ (wrap64 (64 - a1)) then (some (ji11,Go.bits .or .u64 (ji13) (shl .u64 a0_0 (wrap64 (64 - a1))))) else (none)) = some (r1,r2):=by first | (rw [hji13] at H;exact H) | (simp only [hji13] at H ⊢;exact H)
    have hji13_ : (a0_1 / 2 ^ min a1.toNat 64) = ji13:=hji13
    have hji13z : a1 ≤ 64 → (a0_1 / 2 ^ a1.toNat) = ji13:=shr_small hji13
    obtain ⟨ji14,hji14⟩ : ∃ j_ : Int,(wrap64 (64 - a1)) = j_:=⟨_,rfl⟩
    replace H : (if 0 ≤ (ji14) then (some (ji11,Go.bits .or .u64 (ji13) (shl .u64 a0_0 (ji14)))) else (none)) = some (r1,r2):=by first | (rw [hji14] at H;exact H) | (simp only [hji14] at H ⊢;exact H)
    have hji14w : (IntKind.i64.wrap (64 - a1)) = ji14:=(i64_w _).trans hji14
    by_cases c15 : 0 ≤ (ji14)
    ·rw [if_pos c15] at H
     have c15b0:=eq_true c15
     have c15b1 : decide (0 ≤ (ji14)) = true:=decide_eq_true c15
     clear c15
     obtain ⟨ji16,hji16⟩ : ∃ j_ : Int,(shl .u64 a0_0 (ji14)) = j_:=⟨_,rfl⟩
     replace H : (some (ji11,Go.bits .or .u64 (ji13) (ji16))) = some (r1,r2):=by first | (rw [hji16] at H;exact H) | (simp only [hji16] at H ⊢;exact H)
     have hji16_ : (IntKind.u64.wrap (a0_0 * 2 ^ min (ji14).toNat 64)) = ji16:=hji16
     have hji16z : (ji14) ≤ 64 → (IntKind.u64.wrap (a0_0 * 2 ^ (ji14).toNat)) = ji16:=shl_small hji16
     simp only [Option.some.injEq,Prod.mk.injEq] at H
     obtain ⟨rfl,rfl⟩:=H
     go_enter Tryd.func94,Tryd.ntmps94
     try go_wp2_with (first | ((with_reducible refine gate_dst (N:=2) rfl ?_);refine bxA 2 #[.int .u64 a0_0,.int .u64 a0_1] 87 ?_;intro gb203 hg w17 hbox hb;have n0_:=Aside0.mk (below_step bA hb);have n1_:=Aside0.mk (hbox);have n2_:=Aside0.mk (gwA hg bA);have n3_:=Aside0.mk (gwA hg bA);clear HB;have HB:=n0_;have BK203:=n1_;have GW203:=n2_;have GE203:=n3_;clear n0_ n1_ n2_ n3_ hb hbox hg) | ((with_reducible refine gate_dst (N:=4) rfl ?_);refine bxA 4 #[.int .u64 0,.int .u64 0] 87 ?_;intro gb204 hg w18 hbox hb;have n0_:=Aside0.mk (blk_below (g:=gb203) kA hb);have n1_:=Aside0.mk (below_step bA hb);have n2_:=Aside0.mk (hbox);have n3_:=Aside0.mk (gwA hg bA);have n4_:=Aside0.mk (gwA hg bA);have n5_:=Aside0.mk (neA (g:=gb203) hg kA);have n6_:=Aside0.mk (neB (g:=gb203) hg kA);clear BK203 HB;have BK203:=n0_;have HB:=n1_;have BK204:=n2_;have GW204:=n3_;have GE204:=n4_;have NB203_204:=n5_;have NB204_203:=n6_;clear n0_ n1_ n2_ n3_ n4_ n5_ n6_ hb hbox hg))
     have n0_:=Aside0.mk (blk_drew BK203.out);have n1_:=Aside0.mk (blk_drew BK204.out);have n2_:=Aside0.mk (below_drew1 HB.out);clear BK203 BK204 HB;have BK203:=n0_;have BK204:=n1_;have HB:=n2_;clear n0_ n1_ n2_
     refine start_ (n:=16) (S:=fun w' => w'.cell? ⟨gb203,0,none⟩ = some (.int .u64 a0_0) ∧ w'.cell? ⟨gb203,1,none⟩ = some (.int .u64 a0_1)) (ds:=[]) #[false,false,false,false,false,false,false,false,false,false,false,false,false,false,false,false] (by kernel_rfl) rfl rfl ⟨(blk_cell BK203.out 0).trans rfl,(blk_cell BK203.out 1).trans rfl⟩ (fun hHeld => ?_);refine with_tabW wide_Shr.tab4 wide_Shr.bits4 (fun HT_ HW_ => ?_)
     generalize w18.drew = w19 at BK203 BK204 HB hHeld ⊢
     refine pure_ (i:=0) (N:=some 12) (v:=?_) (a':=?_) #[true,false,false,false,false,false,false,false,false,false,false,false,false,false,false,false] rfl rfl (any_of HT_.out (by kernel_rfl)) (fun _ _ _ h => h) (Or.inl ⟨by rfl,?_⟩) ?_ ?_
     rotate_left
     ·intro w'
      go_simp;with_reducible rfl
     rotate_left
     ·simp only [Act.put,List.setIfInBounds_toArray,List.set_cons_zero,List.set_cons_succ,i64_w,i32_w]
      rfl
     refine pure_ (i:=2) (N:=some 14) (v:=?_) (a':=?_) #[true,false,true,false,false,false,false,false,false,false,false,false,false,false,false,false] rfl rfl (any_of HT_.out (by kernel_rfl)) (fun _ _ _ h => h) (Or.inl ⟨by rfl,?_⟩) ?_ ?_
     rotate_left
     ·intro w'
      go_simp;with_reducible rfl
     rotate_left
     ·simp only [Act.put,List.setIfInBounds_toArray,List.set_cons_zero,List.set_cons_succ,i64_w,i32_w]
      rfl
     refine pure_ (i:=4) (N:=some 16) (v:=?_) (a':=?_) #[true,false,true,false,true,false,false,false,false,false,false,false,false,false,false,false] rfl rfl (any_of HT_.out (by kernel_rfl)) (fun _ _ _ h => h) (Or.inl ⟨by rfl,?_⟩) ?_ ?_
     rotate_left
     ·intro w'
      go_simp;with_reducible rfl
     rotate_left
     ·simp only [Act.put,List.setIfInBounds_toArray,List.set_cons_zero,List.set_cons_succ,i64_w,i32_w]
      rfl
     refine pure_ (i:=6) (N:=some 18) (v:=?_) (a':=?_) #[true,false,true,false,true,false,true,false,false,false,false,false,false,false,false,false] rfl rfl (any_of HT_.out (by kernel_rfl)) (fun _ _ _ h => h) (Or.inl ⟨by rfl,?_⟩) ?_ ?_
     rotate_left
     ·intro w'
      go_simp;with_reducible rfl
     rotate_left
     ·simp only [Act.put,List.setIfInBounds_toArray,List.set_cons_zero,List.set_cons_succ,i64_w,i32_w]
      rfl
     refine pure_ (i:=8) (N:=some 20) (v:=?_) (a':=?_) #[true,false,true,false,true,false,true,false,true,false,false,false,false,false,false,false] rfl rfl (any_of HT_.out (by kernel_rfl)) (fun _ _ _ h => h) (Or.inl ⟨by rfl,?_⟩) ?_ ?_
     rotate_left
     ·intro w'
      go_simp;with_reducible rfl
     rotate_left
     ·simp only [Act.put,List.setIfInBounds_toArray,List.set_cons_zero,List.set_cons_succ,i64_w,i32_w]
      rfl
     refine pure_ (i:=10) (N:=some 22) (v:=?_) (a':=?_) #[true,false,true,false,true,false,true,false,true,false,true,false,false,false,false,false] rfl rfl (any_of HT_.out (by kernel_rfl)) (fun _ _ _ h => h) (Or.inl ⟨by rfl,?_⟩) ?_ ?_
     rotate_left
     ·intro w'
      go_simp;with_reducible rfl
     rotate_left
     ·simp only [Act.put,List.setIfInBounds_toArray,List.set_cons_zero,List.set_cons_succ,i64_w,i32_w]
      rfl
     refine pure_ (i:=11) (N:=some 23) (v:=?_) (a':=?_) #[true,false,true,false,true,false,true,false,true,false,true,true,false,false,false,false] rfl rfl (any_of HT_.out (by kernel_rfl)) (fun _ _ _ h => h) (Or.inl ⟨by rfl,?_⟩) ?_ ?_
     rotate_left
     ·intro w'
      go_simp;with_reducible rfl
     rotate_left
     ·simp only [Act.put,List.setIfInBounds_toArray,List.set_cons_zero,List.set_cons_succ,i64_w,i32_w]
      rfl
     refine take_ (i:=1) (N:=some 13) (v:=?_) (a':=?_) #[true,true,true,false,true,false,true,false,true,false,true,true,false,false,false,false] rfl rfl (take_ofW HT_.out HW_.out (by kernel_rfl)) (fun _ _ _ h => h) (Or.inl ⟨by rfl,?_⟩) hHeld ?_ ?_
     rotate_left
     ·rintro w' ⟨s0,s1⟩
      go_simp;with_reducible rfl
     rotate_left
     ·simp only [Act.put,List.setIfInBounds_toArray,List.set_cons_zero,List.set_cons_succ,i64_w,i32_w]
      rfl
     refine pure_ (i:=3) (N:=some 15) (v:=?_) (a':=?_) #[true,true,true,true,true,false,true,false,true,false,true,true,false,false,false,false] rfl rfl (any_of HT_.out (by kernel_rfl)) (fun _ _ _ h => h) (Or.inl ⟨by rfl,?_⟩) ?_ ?_
     rotate_left
     ·intro w'
      go_simp;with_reducible rfl
     rotate_left
     ·simp only [Act.put,List.setIfInBounds_toArray,List.set_cons_zero,List.set_cons_succ,i64_w,i32_w]
      rfl
     refine take_ (i:=5) (N:=some 17) (v:=?_) (a':=?_) #[true,true,true,true,true,true,true,false,true,false,true,true,false,false,false,false] rfl rfl (take_ofW HT_.out HW_.out (by kernel_rfl)) (fun _ _ _ h => h) (Or.inl ⟨by rfl,?_⟩) hHeld ?_ ?_
     rotate_left
     ·rintro w' ⟨s0,s1⟩
      go_simp;with_reducible rfl
     rotate_left
     ·simp only [Act.put,List.setIfInBounds_toArray,List.set_cons_zero,List.set_cons_succ,i64_w,i32_w]
      rfl
     refine pure_ (i:=7) (N:=some 19) (v:=?_) (a':=?_) #[true,true,true,true,true,true,true,true,true,false,true,true,false,false,false,false] rfl rfl (any_of HT_.out (by kernel_rfl)) (fun _ _ _ h => h) (Or.inl ⟨by rfl,?_⟩) ?_ ?_
     rotate_left
     ·intro w'
      go_simp;with_reducible rfl
     rotate_left
     ·simp only [Act.put,List.setIfInBounds_toArray,List.set_cons_zero,List.set_cons_succ,i64_w,i32_w]
      rfl
     refine take_ (i:=9) (N:=some 21) (v:=?_) (a':=?_) #[true,true,true,true,true,true,true,true,true,true,true,true,false,false,false,false] rfl rfl (take_ofW HT_.out HW_.out (by kernel_rfl)) (fun _ _ _ h => h) (Or.inl ⟨by rfl,?_⟩) hHeld ?_ ?_
     rotate_left
     ·rintro w' ⟨s0,s1⟩
      go_simp;with_reducible rfl
     rotate_left
     ·simp only [Act.put,List.setIfInBounds_toArray,List.set_cons_zero,List.set_cons_succ,i64_w,i32_w]
      rfl
     refine pure_ (i:=12) (N:=some 24) (v:=?_) (a':=?_) #[true,true,true,true,true,true,true,true,true,true,true,true,true,false,false,false] rfl rfl (any_of HT_.out (by kernel_rfl)) (fun _ _ _ h => h) (Or.inl ⟨by rfl,?_⟩) ?_ ?_
     rotate_left
     ·intro w'
      go_simp;with_reducible rfl
     rotate_left
     ·simp only [Act.put,List.setIfInBounds_toArray,List.set_cons_zero,List.set_cons_succ,i64_w,i32_w]
      rfl
     refine pure_ (i:=13) (N:=some 25) (v:=?_) (a':=?_) #[true,true,true,true,true,true,true,true,true,true,true,true,true,true,false,false] rfl rfl (any_of HT_.out (by kernel_rfl)) (fun _ _ _ h => h) (Or.inl ⟨by rfl,?_⟩) ?_ ?_
     rotate_left
     ·intro w'
      go_simp;with_reducible rfl
     rotate_left
     ·simp only [Act.put,List.setIfInBounds_toArray,List.set_cons_zero,List.set_cons_succ,i64_w,i32_w]
      rfl
     refine pure_ (i:=14) (N:=some 26) (v:=?_) (a':=?_) #[true,true,true,true,true,true,true,true,true,true,true,true,true,true,true,false] rfl rfl (any_of HT_.out (by kernel_rfl)) (fun _ _ _ h => h) (Or.inl ⟨by rfl,?_⟩) ?_ ?_
     rotate_left
     ·intro w'
      go_simp;with_reducible rfl
     rotate_left
     ·simp only [Act.put,List.setIfInBounds_toArray,List.set_cons_zero,List.set_cons_succ,i64_w,i32_w]
      rfl
     refine one_ (i:=15) (N:=none) #[true,true,true,true,true,true,true,true,true,true,true,true,true,true,true,true] rfl rfl (one_of HT_.out (by kernel_rfl)) (by decide) (fun K hK => ?_)
     have hs20 : w19.cell? ⟨gb204,0,none⟩ = some (.int .u64 0):=(blk_cell BK204.out 0).trans rfl
     have hfs20:=blk_frozen BK204.out 0
     have hns20_0:=NB203_204.out
     have hms20_0:=NB204_203.out
     have hs21 : w19.cell? ⟨gb204,1,none⟩ = some (.int .u64 0):=(blk_cell BK204.out 1).trans rfl
     have hfs21:=blk_frozen BK204.out 1
     have hns21_0:=NB203_204.out
     have hms21_0:=NB204_203.out
     refine skip_ (w1:=?_) (by rfl) rfl ?_ ?_
     rotate_left
     ·go_simp
      rfl
     refine hK.out _ _ ⟨((cell_far (p:=⟨gb204,_,none⟩) NB203_204.out _).trans (((cell_far (p:=⟨gb204,_,none⟩) NB203_204.out _).trans (hHeld.1)))),((cell_far (p:=⟨gb204,_,none⟩) NB203_204.out _).trans (((cell_far (p:=⟨gb204,_,none⟩) NB203_204.out _).trans (hHeld.2))))⟩ (fun hHeld => ?_)
     clear hK K
     refine done_ (done_of HT_.out (by kernel_rfl)) ?_
     try go_wp2
     refine bodyPost_ret (results_cell_row rfl _ _ gb204 87 #[.int .u64 ji11,.int .u64 (Go.bits .or .u64 (ji13) (ji16))] (0,0) _ rfl (by (with_reducible repeat (first | refine blk_drewN ?_ _ | refine blk_drew ?_ | refine blk_alloc ?_ _));refine blk_put (cs:=#[.int .u64 ji11,.int .u64 0]) ?_ 1 _ rfl;(with_reducible repeat (first | refine blk_drewN ?_ _ | refine blk_drew ?_ | refine blk_alloc ?_ _));refine blk_put (cs:=#[.int .u64 0,.int .u64 0]) ?_ 0 _ rfl;exact kA) Tryd.underlying87 rfl (by kernel_rfl)) rfl ?_
     exact ⟨by first | rfl | (simp [errW_none,errW_some] <;> rfl) | (simp only [← hji11,← hji13,← hji14,← hji16];first | rfl | (simp [errW_none,errW_some] <;> rfl)) | (simp [*,errW_none,errW_some] <;> rfl),bA⟩
    ·rw [if_neg c15] at H
     exact absurd H (by simp)
   ·rw [if_neg c10] at H
    exact absurd H (by simp)
  ·rw [if_neg c9] at H
   have c9b0 : decide (a1 < 64) = false:=decide_eq_false c9
   clear c9
   by_cases c22 : a1 < 128
   ·rw [if_pos c22] at H
    have c22b0 : decide (a1 < 128) = true:=decide_eq_true c22
    clear c22
    obtain ⟨ji23,hji23⟩ : ∃ j_ : Int,(wrap64 (a1 - 64)) = j_:=⟨_,rfl⟩
    replace H : (if 0 ≤ (ji23) then (some (0,shr .u64 a0_0 (ji23))) else (none)) = some (r1,r2):=by first | (rw [hji23] at H;exact H) | (simp only [hji23] at H ⊢;exact H)
    have hji23w : (IntKind.i64.wrap (a1 - 64)) = ji23:=(i64_w _).trans hji23
    by_cases c24 : 0 ≤ (ji23)
    ·rw [if_pos c24] at H
     have c24b0:=eq_true c24
     have c24b1 : decide (0 ≤ (ji23)) = true:=decide_eq_true c24
     clear c24
     obtain ⟨ji25,hji25⟩ : ∃ j_ : Int,(shr .u64 a0_0 (ji23)) = j_:=⟨_,rfl⟩
     replace H : (some (0,ji25)) = some (r1,r2):=by first | (rw [hji25] at H;exact H) | (simp only [hji25] at H ⊢;exact H)
     have hji25_ : (a0_0 / 2 ^ min (ji23).toNat 64) = ji25:=hji25
     have hji25z : (ji23) ≤ 64 → (a0_0 / 2 ^ (ji23).toNat) = ji25:=shr_small hji25
     simp only [Option.some.injEq,Prod.mk.injEq] at H
     obtain ⟨rfl,rfl⟩:=H
     go_enter Tryd.func94,Tryd.ntmps94
     go_wp2_with (first | ((with_reducible refine gate_dst (N:=2) rfl ?_);refine bxA 2 #[.int .u64 a0_0,.int .u64 a0_1] 87 ?_;intro gb203 hg w26 hbox hb;have n0_:=Aside0.mk (below_step bA hb);have n1_:=Aside0.mk (hbox);have n2_:=Aside0.mk (gwA hg bA);have n3_:=Aside0.mk (gwA hg bA);clear HB;have HB:=n0_;have BK203:=n1_;have GW203:=n2_;have GE203:=n3_;clear n0_ n1_ n2_ n3_ hb hbox hg) | ((with_reducible refine gate_dst (N:=4) rfl ?_);refine bxA 4 #[.int .u64 0,.int .u64 0] 87 ?_;intro gb204 hg w27 hbox hb;have n0_:=Aside0.mk (blk_below (g:=gb203) kA hb);have n1_:=Aside0.mk (below_step bA hb);have n2_:=Aside0.mk (hbox);have n3_:=Aside0.mk (gwA hg bA);have n4_:=Aside0.mk (gwA hg bA);have n5_:=Aside0.mk (neA (g:=gb203) hg kA);have n6_:=Aside0.mk (neB (g:=gb203) hg kA);clear BK203 HB;have BK203:=n0_;have HB:=n1_;have BK204:=n2_;have GW204:=n3_;have GE204:=n4_;have NB203_204:=n5_;have NB204_203:=n6_;clear n0_ n1_ n2_ n3_ n4_ n5_ n6_ hb hbox hg;have hnb28:=NB203_204.out;have hnc28:=NB204_203.out;have hcz29_0 : w27.cell? ⟨gb203,0,none⟩ = some (.int .u64 a0_0):=(blk_cell BK203.out 0).trans rfl;have hcz29_1 : w27.cell? ⟨gb203,1,none⟩ = some (.int .u64 a0_1):=(blk_cell BK203.out 1).trans rfl;have hfz29_0:=blk_frozen BK203.out 0;have hfz29_1:=blk_frozen BK203.out 1;have hcz30_0 : w27.cell? ⟨gb204,0,none⟩ = some (.int .u64 0):=(blk_cell BK204.out 0).trans rfl;have hcz30_1 : w27.cell? ⟨gb204,1,none⟩ = some (.int .u64 0):=(blk_cell BK204.out 1).trans rfl;have hfz30_0:=blk_frozen BK204.out 0;have hfz30_1:=blk_frozen BK204.out 1))
     refine bodyPost_ret (results_cell_row rfl _ _ gb204 87 #[.int .u64 0,.int .u64 ji25] (0,0) _ rfl (by (with_reducible repeat (first | refine blk_drewN ?_ _ | refine blk_drew ?_ | refine blk_alloc ?_ _));refine blk_put (cs:=#[.int .u64 0,.int .u64 0]) ?_ 1 _ rfl;(with_reducible repeat (first | refine blk_drewN ?_ _ | refine blk_drew ?_ | refine blk_alloc ?_ _));refine blk_put (cs:=#[.int .u64 0,.int .u64 0]) ?_ 0 _ rfl;exact kA) Tryd.underlying87 rfl (by kernel_rfl)) rfl ?_
     exact ⟨by first | rfl | (simp [errW_none,errW_some] <;> rfl) | (simp only [← hji23,← hji25];first | rfl | (simp [errW_none,errW_some] <;> rfl)) | (simp [*,errW_none,errW_some] <;> rfl),bA⟩
    ·rw [if_neg c24] at H
     exact absurd H (by simp)
   ·rw [if_neg c22] at H
    have c22b0 : decide (a1 < 128) = false:=decide_eq_false c22
    clear c22
    simp only [Option.some.injEq,Prod.mk.injEq] at H
    obtain ⟨rfl,rfl⟩:=H
    go_enter Tryd.func94,Tryd.ntmps94
    go_wp2_with (first | ((with_reducible refine gate_dst (N:=2) rfl ?_);refine bxA 2 #[.int .u64 a0_0,.int .u64 a0_1] 87 ?_;intro gb203 hg w31 hbox hb;have n0_:=Aside0.mk (below_step bA hb);have n1_:=Aside0.mk (hbox);have n2_:=Aside0.mk (gwA hg bA);have n3_:=Aside0.mk (gwA hg bA);clear HB;have HB:=n0_;have BK203:=n1_;have GW203:=n2_;have GE203:=n3_;clear n0_ n1_ n2_ n3_ hb hbox hg) | ((with_reducible refine gate_dst (N:=4) rfl ?_);refine bxA 4 #[.int .u64 0,.int .u64 0] 87 ?_;intro gb204 hg w32 hbox hb;have n0_:=Aside0.mk (blk_below (g:=gb203) kA hb);have n1_:=Aside0.mk (below_step bA hb);have n2_:=Aside0.mk (hbox);have n3_:=Aside0.mk (gwA hg bA);have n4_:=Aside0.mk (gwA hg bA);have n5_:=Aside0.mk (neA (g:=gb203) hg kA);have n6_:=Aside0.mk (neB (g:=gb203) hg kA);clear BK203 HB;have BK203:=n0_;have HB:=n1_;have BK204:=n2_;have GW204:=n3_;have GE204:=n4_;have NB203_204:=n5_;have NB204_203:=n6_;clear n0_ n1_ n2_ n3_ n4_ n5_ n6_ hb hbox hg;have hnb33:=NB204_203.out;have hnc33:=NB203_204.out;have hcz34_0 : w32.cell? ⟨gb204,0,none⟩ = some (.int .u64 0):=(blk_cell BK204.out 0).trans rfl;have hcz34_1 : w32.cell? ⟨gb204,1,none⟩ = some (.int .u64 0):=(blk_cell BK204.out 1).trans rfl;have hfz34_0:=blk_frozen BK204.out 0;have hfz34_1:=blk_frozen BK204.out 1))
    refine bodyPost_ret (results_cell_row rfl _ _ gb204 87 #[.int .u64 0,.int .u64 0] (0,0) _ rfl (by (with_reducible repeat (first | refine blk_drewN ?_ _ | refine blk_drew ?_ | refine blk_alloc ?_ _));refine blk_put (cs:=#[.int .u64 0,.int .u64 0]) ?_ 1 _ rfl;(with_reducible repeat (first | refine blk_drewN ?_ _ | refine blk_drew ?_ | refine blk_alloc ?_ _));refine blk_put (cs:=#[.int .u64 0,.int .u64 0]) ?_ 0 _ rfl;exact kA) Tryd.underlying87 rfl (by kernel_rfl)) rfl ?_
    exact ⟨by first | rfl | (simp [errW_none,errW_some] <;> rfl) | (simp [*,errW_none,errW_some] <;> rfl),bA⟩

def fixq_Part.f (a0 : Int) (a1 : Int) : Option (Int):=(wide_Mul.f a0 (mn a1 9223372036854775808)).bind fun bt205 => ((wide_Shr.f bt205.1 bt205.2 63).bind fun bt207 => (some bt207.2))
set_option maxHeartbeats 8000000 in
set_option maxRecDepth 100000 in
theorem fixq_Part.calls (a0 : Int) (a1 : Int) (r : Int) (w : World) (h : fixq_Part.f a0 a1 = some r) :
  Calls Tryd.prog 70 #[.int .u64 a0,.int .u64 a1] w fun e w' => e = .returned (.int .u64 r) ∧ Below w.heap.size w w':=by
 have hfd87_1 : ∀ (x0 : Int) (x1 : Int) (W_ : World),(Instr.field 87 (.agg #[(.int .u64 x0),(.int .u64 x1)]) 1).run Tryd.prog W_ = .ok ((.int .u64 x1)) W_:=by intros;kernel_rfl
 have HB:=Aside0.mk (Below.refl w.heap.size w)
 have H : ((wide_Mul.f a0 (mn a1 9223372036854775808)).bind fun bt205 => ((wide_Shr.f bt205.1 bt205.2 63).bind fun bt207 => (some bt207.2))) = some r:=h
 clear h
 obtain ⟨ji3,hji3⟩ : ∃ j_ : Int,(mn a1 9223372036854775808) = j_:=⟨_,rfl⟩
 replace H : ((wide_Mul.f a0 (ji3)).bind fun bt205 => ((wide_Shr.f bt205.1 bt205.2 63).bind fun bt207 => (some bt207.2))) = some r:=by first | (rw [hji3] at H;exact H) | (simp only [hji3] at H ⊢;exact H)
 (try (have hji3h : ji3 ≤ 9223372036854775808:=by (rw [← hji3];unfold mn;(repeat' split) <;> omega)))
 (try (have hji3g : ji3 ≤ 64:=by omega))
 have hji3_ : (if 9223372036854775808 < a1 then 9223372036854775808 else a1) = ji3:=hji3
 replace H:=Option.bind_eq_some_iff.mp H;obtain ⟨⟨t205,t206⟩,A40,H⟩:=H;replace H : ((wide_Shr.f t205 t206 63).bind fun bt207 => (some bt207.2)) = some r:=H;have A4:=Aside0.mk A40;clear A40;replace H:=Option.bind_eq_some_iff.mp H;obtain ⟨⟨t207,t208⟩,A50,H⟩:=H;replace H : (some t208) = some r:=H;have A5:=Aside0.mk A50;clear A50
 obtain rfl:=Option.some.inj H
 go_enter Tryd.func70,Tryd.ntmps70
 go_wp2_with (first | ((with_reducible refine gate_callee (f:=73) rfl ?_);refine goesL_ (some 8) rfl rfl Tryd.func73 (by kernel_rfl) rfl #[.int .u64 a0,.int .u64 ji3] rfl (by (try simp only [List.map_toArray,List.map_cons,List.map_nil]);first | done | (simp only [hji3];rfl) | rfl | (simp only [List.length_drop,List.length_take];rfl)) ?_;(with_reducible refine (wide_Mul.calls a0 ji3 t205 t206 _ A4.out).mono ?_);rintro e w6 ⟨rfl,hb⟩;refine ⟨_,rfl,?_⟩;have n0_:=Aside0.mk (below_step bA hb);clear HB;have HB:=n0_;clear n0_;(try clear hb)) | ((with_reducible refine gate_callee (f:=94) rfl ?_);refine goesL_ (some 9) rfl rfl Tryd.func94 (by kernel_rfl) rfl #[.agg #[.int .u64 t205,.int .u64 t206],.int .i64 63] rfl aA ?_;(with_reducible refine (wide_Shr.calls t205 t206 63 t207 t208 _ A5.out).mono ?_);rintro e w7 ⟨rfl,hb⟩;refine ⟨_,rfl,?_⟩;have n0_:=Aside0.mk (below_step bA hb);clear HB;have HB:=n0_;clear n0_;(try clear hb)))
 go_ret
 exact ⟨by first | rfl | (simp [errW_none,errW_some] <;> rfl) | (simp only [← hji3];first | rfl | (simp [errW_none,errW_some] <;> rfl)) | (simp [*,errW_none,errW_some] <;> rfl),bA⟩

def decay_Fade.f (a0 : Int) (a1 : Int) : Option (Int):=(fixq_Part.f a0 a1).bind fun t209 => (some t209)
set_option maxHeartbeats 8000000 in
set_option maxRecDepth 100000 in
theorem decay_Fade.calls (a0 : Int) (a1 : Int) (r : Int) (w : World) (h : decay_Fade.f a0 a1 = some r) :
  Calls Tryd.prog 44 #[.int .u64 a0,.int .u64 a1] w fun e w' => e = .returned (.int .u64 r) ∧ Below w.heap.size w w':=by
 have HB:=Aside0.mk (Below.refl w.heap.size w)
 have H : ((fixq_Part.f a0 a1).bind fun t209 => (some t209)) = some r:=h
 clear h;replace H:=Option.bind_eq_some_iff.mp H;obtain ⟨t209,A30,H⟩:=H;replace H : (some t209) = some r:=H;have A3:=Aside0.mk A30;clear A30
 obtain rfl:=Option.some.inj H
 go_enter Tryd.func44,Tryd.ntmps44
 go_wp2_with (first | ((with_reducible refine gate_callee (f:=70) rfl ?_);refine goesL_ (some 7) rfl rfl Tryd.func70 (by kernel_rfl) rfl #[.int .u64 a0,.int .u64 a1] rfl aA ?_;(with_reducible refine (fixq_Part.calls a0 a1 t209 _ A3.out).mono ?_);rintro e w4 ⟨rfl,hb⟩;refine ⟨_,rfl,?_⟩;have n0_:=Aside0.mk (below_step bA hb);clear HB;have HB:=n0_;clear n0_;(try clear hb)))
 go_ret
 exact ⟨by first | rfl | (simp [errW_none,errW_some] <;> rfl) | (simp [*,errW_none,errW_some] <;> rfl),bA⟩


def fixq_beyond.f  : Option (Int × Bool):=some (18446744073709551615,false)
set_option maxHeartbeats 8000000 in
set_option maxRecDepth 100000 in
theorem fixq_beyond.calls  (r1 : Int) (r2 : Bool) (w : World) (h : fixq_beyond.f  = some (r1,r2)) :
  Calls Tryd.prog 71 #[] w fun e w' => e = .returned (.agg #[.int .u64 r1,.bool r2]) ∧ Below w.heap.size w w':=by
 have hu84:=Tryd.underlying84
 have HB:=Aside0.mk (Below.refl w.heap.size w)
 have H : (some (18446744073709551615,false)) = some (r1,r2):=h
 clear h
 simp only [Option.some.injEq,Prod.mk.injEq] at H
 obtain ⟨rfl,rfl⟩:=H
 go_enter Tryd.func71,Tryd.ntmps71
 go_wp2_with (first | ((with_reducible refine gate_dst (N:=0) rfl ?_);refine bxA 0 #[.int .u64 0,.bool false] 84 ?_;intro gb212 hg w1 hbox hb;have n0_:=Aside0.mk (below_step bA hb);have n1_:=Aside0.mk (hbox);have n2_:=Aside0.mk (gwA hg bA);have n3_:=Aside0.mk (gwA hg bA);clear HB;have HB:=n0_;have BK212:=n1_;have GW212:=n2_;have GE212:=n3_;clear n0_ n1_ n2_ n3_ hb hbox hg;have hcz2_0 : w1.cell? ⟨gb212,0,none⟩ = some (.int .u64 0):=(blk_cell BK212.out 0).trans rfl;have hcz2_1 : w1.cell? ⟨gb212,1,none⟩ = some (.bool false):=(blk_cell BK212.out 1).trans rfl;have hfz2_0:=blk_frozen BK212.out 0;have hfz2_1:=blk_frozen BK212.out 1))
 refine bodyPost_ret (results_cell_row rfl _ _ gb212 84 #[.int .u64 18446744073709551615,.bool false] (0,0) _ rfl (by (with_reducible repeat (first | refine blk_drewN ?_ _ | refine blk_drew ?_ | refine blk_alloc ?_ _));refine blk_put (cs:=#[.int .u64 18446744073709551615,.bool false]) ?_ 1 _ rfl;(with_reducible repeat (first | refine blk_drewN ?_ _ | refine blk_drew ?_ | refine blk_alloc ?_ _));refine blk_put (cs:=#[.int .u64 0,.bool false]) ?_ 0 _ rfl;exact kA) Tryd.underlying84 rfl (by kernel_rfl)) rfl ?_
 exact ⟨by first | rfl | (simp [errW_none,errW_some] <;> rfl) | (simp [*,errW_none,errW_some] <;> rfl),bA⟩

def fixq_of.f (a0_0 : Int) (a0_1 : Int) : Option (Int × Bool):=if a0_0 > 0 then ((fixq_beyond.f).bind fun bt215 => (some (bt215.1,bt215.2))) else (some (a0_1,true))
set_option maxHeartbeats 8000000 in
set_option maxRecDepth 100000 in
theorem fixq_of.calls (a0_0 : Int) (a0_1 : Int) (r1 : Int) (r2 : Bool) (w : World) (h : fixq_of.f a0_0 a0_1 = some (r1,r2)) :
  Calls Tryd.prog 47 #[.agg #[.int .u64 a0_0,.int .u64 a0_1]] w fun e w' => e = .returned (.agg #[.int .u64 r1,.bool r2]) ∧ Below w.heap.size w w':=by
 have hu87:=Tryd.underlying87
 have hu84:=Tryd.underlying84
 have HB:=Aside0.mk (Below.refl w.heap.size w)
 have H : (if a0_0 > 0 then ((fixq_beyond.f).bind fun bt215 => (some (bt215.1,bt215.2))) else (some (a0_1,true))) = some (r1,r2):=h
 clear h
 by_cases c2 : a0_0 > 0
 ·rw [if_pos c2] at H
  have c2b0 : decide (0 < a0_0) = true:=decide_eq_true c2
  clear c2;replace H:=Option.bind_eq_some_iff.mp H;obtain ⟨⟨t215,t216⟩,A30,H⟩:=H;replace H : (some (t215,t216)) = some (r1,r2):=H;have A3:=Aside0.mk A30;clear A30
  simp only [Option.some.injEq,Prod.mk.injEq] at H
  obtain ⟨rfl,rfl⟩:=H
  go_enter Tryd.func47,Tryd.ntmps47
  go_wp2_with (first | ((with_reducible refine gate_dst (N:=1) rfl ?_);refine bxA 1 #[.int .u64 a0_0,.int .u64 a0_1] 87 ?_;intro gb213 hg w4 hbox hb;have n0_:=Aside0.mk (below_step bA hb);have n1_:=Aside0.mk (hbox);have n2_:=Aside0.mk (gwA hg bA);have n3_:=Aside0.mk (gwA hg bA);clear HB;have HB:=n0_;have BK213:=n1_;have GW213:=n2_;have GE213:=n3_;clear n0_ n1_ n2_ n3_ hb hbox hg) | ((with_reducible refine gate_dst (N:=2) rfl ?_);refine bxA 2 #[.int .u64 0,.bool false] 84 ?_;intro gb214 hg w5 hbox hb;have n0_:=Aside0.mk (blk_below (g:=gb213) kA hb);have n1_:=Aside0.mk (below_step bA hb);have n2_:=Aside0.mk (hbox);have n3_:=Aside0.mk (gwA hg bA);have n4_:=Aside0.mk (gwA hg bA);have n5_:=Aside0.mk (neA (g:=gb213) hg kA);have n6_:=Aside0.mk (neB (g:=gb213) hg kA);clear BK213 HB;have BK213:=n0_;have HB:=n1_;have BK214:=n2_;have GW214:=n3_;have GE214:=n4_;have NB213_214:=n5_;have NB214_213:=n6_;clear n0_ n1_ n2_ n3_ n4_ n5_ n6_ hb hbox hg;have hnb6:=NB213_214.out;have hnc6:=NB214_213.out;have hcz7_0 : w5.cell? ⟨gb213,0,none⟩ = some (.int .u64 a0_0):=(blk_cell BK213.out 0).trans rfl;have hcz7_1 : w5.cell? ⟨gb213,1,none⟩ = some (.int .u64 a0_1):=(blk_cell BK213.out 1).trans rfl;have hfz7_0:=blk_frozen BK213.out 0;have hfz7_1:=blk_frozen BK213.out 1) | ((with_reducible refine gate_callee (f:=71) rfl ?_);refine goesL_ (some 6) rfl rfl Tryd.func71 (by kernel_rfl) rfl #[] rfl aA ?_;(with_reducible refine (fixq_beyond.calls  t215 t216 _ A3.out).mono ?_);rintro e w8 ⟨rfl,hb⟩;refine ⟨_,rfl,?_⟩;have n0_:=Aside0.mk (blk_below (g:=gb213) kA hb);have n1_:=Aside0.mk (blk_below (g:=gb214) kA hb);have n2_:=Aside0.mk (below_step bA hb);clear BK213 BK214 HB;have BK213:=n0_;have BK214:=n1_;have HB:=n2_;clear n0_ n1_ n2_;(try clear hb);have hcz9_0 : w8.cell? ⟨gb214,0,none⟩ = some (.int .u64 0):=(blk_cell BK214.out 0).trans rfl;have hcz9_1 : w8.cell? ⟨gb214,1,none⟩ = some (.bool false):=(blk_cell BK214.out 1).trans rfl;have hfz9_0:=blk_frozen BK214.out 0;have hfz9_1:=blk_frozen BK214.out 1))
  refine bodyPost_ret (results_cell_row rfl _ _ gb214 84 #[.int .u64 t215,.bool t216] (0,0) _ rfl (by (with_reducible repeat (first | refine blk_drewN ?_ _ | refine blk_drew ?_ | refine blk_alloc ?_ _));refine blk_put (cs:=#[.int .u64 t215,.bool false]) ?_ 1 _ rfl;(with_reducible repeat (first | refine blk_drewN ?_ _ | refine blk_drew ?_ | refine blk_alloc ?_ _));refine blk_put (cs:=#[.int .u64 0,.bool false]) ?_ 0 _ rfl;exact kA) Tryd.underlying84 rfl (by kernel_rfl)) rfl ?_
  exact ⟨by first | rfl | (simp [errW_none,errW_some] <;> rfl) | (simp [*,errW_none,errW_some] <;> rfl),bA⟩
 ·rw [if_neg c2] at H
  have c2b0 : decide (0 < a0_0) = false:=decide_eq_false c2
  clear c2
  simp only [Option.some.injEq,Prod.mk.injEq] at H
  obtain ⟨rfl,rfl⟩:=H
  go_enter Tryd.func47,Tryd.ntmps47
  go_wp2_with (first | ((with_reducible refine gate_dst (N:=1) rfl ?_);refine bxA 1 #[.int .u64 a0_0,.int .u64 a0_1] 87 ?_;intro gb213 hg w10 hbox hb;have n0_:=Aside0.mk (below_step bA hb);have n1_:=Aside0.mk (hbox);have n2_:=Aside0.mk (gwA hg bA);have n3_:=Aside0.mk (gwA hg bA);clear HB;have HB:=n0_;have BK213:=n1_;have GW213:=n2_;have GE213:=n3_;clear n0_ n1_ n2_ n3_ hb hbox hg) | ((with_reducible refine gate_dst (N:=2) rfl ?_);refine bxA 2 #[.int .u64 0,.bool false] 84 ?_;intro gb214 hg w11 hbox hb;have n0_:=Aside0.mk (blk_below (g:=gb213) kA hb);have n1_:=Aside0.mk (below_step bA hb);have n2_:=Aside0.mk (hbox);have n3_:=Aside0.mk (gwA hg bA);have n4_:=Aside0.mk (gwA hg bA);have n5_:=Aside0.mk (neA (g:=gb213) hg kA);have n6_:=Aside0.mk (neB (g:=gb213) hg kA);clear BK213 HB;have BK213:=n0_;have HB:=n1_;have BK214:=n2_;have GW214:=n3_;have GE214:=n4_;have NB213_214:=n5_;have NB214_213:=n6_;clear n0_ n1_ n2_ n3_ n4_ n5_ n6_ hb hbox hg;have hnb12:=NB213_214.out;have hnc12:=NB214_213.out;have hcz13_0 : w11.cell? ⟨gb213,0,none⟩ = some (.int .u64 a0_0):=(blk_cell BK213.out 0).trans rfl;have hcz13_1 : w11.cell? ⟨gb213,1,none⟩ = some (.int .u64 a0_1):=(blk_cell BK213.out 1).trans rfl;have hfz13_0:=blk_frozen BK213.out 0;have hfz13_1:=blk_frozen BK213.out 1;have hcz14_0 : w11.cell? ⟨gb214,0,none⟩ = some (.int .u64 0):=(blk_cell BK214.out 0).trans rfl;have hcz14_1 : w11.cell? ⟨gb214,1,none⟩ = some (.bool false):=(blk_cell BK214.out 1).trans rfl;have hfz14_0:=blk_frozen BK214.out 0;have hfz14_1:=blk_frozen BK214.out 1))
  refine bodyPost_ret (results_cell_row rfl _ _ gb214 84 #[.int .u64 a0_1,.bool true] (0,0) _ rfl (by (with_reducible repeat (first | refine blk_drewN ?_ _ | refine blk_drew ?_ | refine blk_alloc ?_ _));refine blk_put (cs:=#[.int .u64 a0_1,.bool false]) ?_ 1 _ rfl;(with_reducible repeat (first | refine blk_drewN ?_ _ | refine blk_drew ?_ | refine blk_alloc ?_ _));refine blk_put (cs:=#[.int .u64 0,.bool false]) ?_ 0 _ rfl;exact kA) Tryd.underlying84 rfl (by kernel_rfl)) rfl ?_
  exact ⟨by first | rfl | (simp [errW_none,errW_some] <;> rfl) | (simp [*,errW_none,errW_some] <;> rfl),bA⟩

def fixq_Of.f (a0 : Int) : Option (Int × Bool):=if a0 < 0 then (some (0,false)) else ((wide_Of.f (IntKind.u64.wrap (a0))).bind fun bt217 => ((wide_Shl.f bt217.1 bt217.2 32).bind fun bt219 => ((fixq_of.f bt219.1 bt219.2).bind fun bt221 => (some (bt221.1,bt221.2)))))
set_option maxHeartbeats 8000000 in
set_option maxRecDepth 100000 in
theorem fixq_Of.calls (a0 : Int) (r1 : Int) (r2 : Bool) (w : World) (h : fixq_Of.f a0 = some (r1,r2)) :
  Calls Tryd.prog 24 #[.int .i64 a0] w fun e w' => e = .returned (.tuple #[.int .u64 r1,.bool r2]) ∧ Below w.heap.size w w':=by
 have hu84:=Tryd.underlying84
 have HB:=Aside0.mk (Below.refl w.heap.size w)
 have H : (if a0 < 0 then (some (0,false)) else ((wide_Of.f (IntKind.u64.wrap (a0))).bind fun bt217 => ((wide_Shl.f bt217.1 bt217.2 32).bind fun bt219 => ((fixq_of.f bt219.1 bt219.2).bind fun bt221 => (some (bt221.1,bt221.2)))))) = some (r1,r2):=h
 clear h
 by_cases c2 : a0 < 0
 ·rw [if_pos c2] at H
  have c2b0 : decide (a0 < 0) = true:=decide_eq_true c2
  clear c2
  simp only [Option.some.injEq,Prod.mk.injEq] at H
  obtain ⟨rfl,rfl⟩:=H
  go_enter Tryd.func24,Tryd.ntmps24
  go_wp2
  repeat (go_quiet (fail);try go_wp2)
  go_ret2
  exact ⟨by first | rfl | (simp [errW_none,errW_some] <;> rfl) | (simp [*,errW_none,errW_some] <;> rfl),bA⟩
 ·rw [if_neg c2] at H
  have c2b0 : decide (a0 < 0) = false:=decide_eq_false c2
  clear c2;replace H:=Option.bind_eq_some_iff.mp H;obtain ⟨⟨t217,t218⟩,A30,H⟩:=H;replace H : ((wide_Shl.f t217 t218 32).bind fun bt219 => ((fixq_of.f bt219.1 bt219.2).bind fun bt221 => (some (bt221.1,bt221.2)))) = some (r1,r2):=H;have A3:=Aside0.mk A30;clear A30;replace H:=Option.bind_eq_some_iff.mp H;obtain ⟨⟨t219,t220⟩,A40,H⟩:=H;replace H : ((fixq_of.f t219 t220).bind fun bt221 => (some (bt221.1,bt221.2))) = some (r1,r2):=H;have A4:=Aside0.mk A40;clear A40;replace H:=Option.bind_eq_some_iff.mp H;obtain ⟨⟨t221,t222⟩,A50,H⟩:=H;replace H : (some (t221,t222)) = some (r1,r2):=H;have A5:=Aside0.mk A50;clear A50
  simp only [Option.some.injEq,Prod.mk.injEq] at H
  obtain ⟨rfl,rfl⟩:=H
  go_enter Tryd.func24,Tryd.ntmps24
  go_wp2_with (first | (go_at_call 49;(with_reducible refine (wide_Of.calls (IntKind.u64.wrap (a0)) t217 t218 _ A3.out).mono ?_);rintro e w6 ⟨rfl,hb⟩;have n0_:=Aside0.mk (below_step bA hb);clear HB;have HB:=n0_;clear n0_;(try clear hb)) | (go_at_call 48;(with_reducible refine (wide_Shl.calls t217 t218 32 t219 t220 _ A4.out).mono ?_);rintro e w7 ⟨rfl,hb⟩;have n0_:=Aside0.mk (below_step bA hb);clear HB;have HB:=n0_;clear n0_;(try clear hb)) | (go_at_call 47;(with_reducible refine (fixq_of.calls t219 t220 t221 t222 _ A5.out).mono ?_);rintro e w8 ⟨rfl,hb⟩;have n0_:=Aside0.mk (below_step bA hb);clear HB;have HB:=n0_;clear n0_;(try clear hb)) | ((with_reducible refine gate_dst (N:=4) rfl ?_);refine bxA 4 #[.int .u64 0,.bool false] 84 ?_;intro gb223 hg w9 hbox hb;have n0_:=Aside0.mk (below_step bA hb);have n1_:=Aside0.mk (hbox);have n2_:=Aside0.mk (gwA hg bA);have n3_:=Aside0.mk (gwA hg bA);clear HB;have HB:=n0_;have BK223:=n1_;have GW223:=n2_;have GE223:=n3_;clear n0_ n1_ n2_ n3_ hb hbox hg;have hcz10_0 : w9.cell? ⟨gb223,0,none⟩ = some (.int .u64 0):=(blk_cell BK223.out 0).trans rfl;have hcz10_1 : w9.cell? ⟨gb223,1,none⟩ = some (.bool false):=(blk_cell BK223.out 1).trans rfl;have hfz10_0:=blk_frozen BK223.out 0;have hfz10_1:=blk_frozen BK223.out 1))
  repeat (go_quiet (first | (go_at_call 49;(with_reducible refine (wide_Of.calls (IntKind.u64.wrap (a0)) t217 t218 _ A3.out).mono ?_);rintro e w6 ⟨rfl,hb⟩;have n0_:=Aside0.mk (below_step bA hb);clear HB;have HB:=n0_;clear n0_;(try clear hb)) | (go_at_call 48;(with_reducible refine (wide_Shl.calls t217 t218 32 t219 t220 _ A4.out).mono ?_);rintro e w7 ⟨rfl,hb⟩;have n0_:=Aside0.mk (below_step bA hb);clear HB;have HB:=n0_;clear n0_;(try clear hb)) | (go_at_call 47;(with_reducible refine (fixq_of.calls t219 t220 t221 t222 _ A5.out).mono ?_);rintro e w8 ⟨rfl,hb⟩;have n0_:=Aside0.mk (below_step bA hb);clear HB;have HB:=n0_;clear n0_;(try clear hb)) | ((with_reducible refine gate_dst (N:=4) rfl ?_);refine bxA 4 #[.int .u64 0,.bool false] 84 ?_;intro gb223 hg w9 hbox hb;have n0_:=Aside0.mk (below_step bA hb);have n1_:=Aside0.mk (hbox);have n2_:=Aside0.mk (gwA hg bA);have n3_:=Aside0.mk (gwA hg bA);clear HB;have HB:=n0_;have BK223:=n1_;have GW223:=n2_;have GE223:=n3_;clear n0_ n1_ n2_ n3_ hb hbox hg;have hcz10_0 : w9.cell? ⟨gb223,0,none⟩ = some (.int .u64 0):=(blk_cell BK223.out 0).trans rfl;have hcz10_1 : w9.cell? ⟨gb223,1,none⟩ = some (.bool false):=(blk_cell BK223.out 1).trans rfl;have hfz10_0:=blk_frozen BK223.out 0;have hfz10_1:=blk_frozen BK223.out 1));try go_wp2_with (first | (go_at_call 49;(with_reducible refine (wide_Of.calls (IntKind.u64.wrap (a0)) t217 t218 _ A3.out).mono ?_);rintro e w6 ⟨rfl,hb⟩;have n0_:=Aside0.mk (below_step bA hb);clear HB;have HB:=n0_;clear n0_;(try clear hb)) | (go_at_call 48;(with_reducible refine (wide_Shl.calls t217 t218 32 t219 t220 _ A4.out).mono ?_);rintro e w7 ⟨rfl,hb⟩;have n0_:=Aside0.mk (below_step bA hb);clear HB;have HB:=n0_;clear n0_;(try clear hb)) | (go_at_call 47;(with_reducible refine (fixq_of.calls t219 t220 t221 t222 _ A5.out).mono ?_);rintro e w8 ⟨rfl,hb⟩;have n0_:=Aside0.mk (below_step bA hb);clear HB;have HB:=n0_;clear n0_;(try clear hb)) | ((with_reducible refine gate_dst (N:=4) rfl ?_);refine bxA 4 #[.int .u64 0,.bool false] 84 ?_;intro gb223 hg w9 hbox hb;have n0_:=Aside0.mk (below_step bA hb);have n1_:=Aside0.mk (hbox);have n2_:=Aside0.mk (gwA hg bA);have n3_:=Aside0.mk (gwA hg bA);clear HB;have HB:=n0_;have BK223:=n1_;have GW223:=n2_;have GE223:=n3_;clear n0_ n1_ n2_ n3_ hb hbox hg;have hcz10_0 : w9.cell? ⟨gb223,0,none⟩ = some (.int .u64 0):=(blk_cell BK223.out 0).trans rfl;have hcz10_1 : w9.cell? ⟨gb223,1,none⟩ = some (.bool false):=(blk_cell BK223.out 1).trans rfl;have hfz10_0:=blk_frozen BK223.out 0;have hfz10_1:=blk_frozen BK223.out 1)))
  go_ret2
  exact ⟨by first | rfl | (simp [errW_none,errW_some] <;> rfl) | (simp [*,errW_none,errW_some] <;> rfl),bA⟩

def fixq_Add.f (a0 : Int) (a1 : Int) : Option (Int × Bool):=(wide_Of.f a0).bind fun bt224 => ((wide_Of.f a1).bind fun bt226 => ((wide_Add.f bt224.1 bt224.2 bt226.1 bt226.2).bind fun bt228 => ((fixq_of.f bt228.1 bt228.2.1).bind fun bt232 => (some (bt232.1,bt232.2)))))
set_option maxHeartbeats 8000000 in
set_option maxRecDepth 100000 in
theorem fixq_Add.calls (a0 : Int) (a1 : Int) (r1 : Int) (r2 : Bool) (w : World) (h : fixq_Add.f a0 a1 = some (r1,r2)) :
  Calls Tryd.prog 38 #[.int .u64 a0,.int .u64 a1] w fun e w' => e = .returned (.tuple #[.int .u64 r1,.bool r2]) ∧ Below w.heap.size w w':=by
 have hu87:=Tryd.underlying87
 have hu84:=Tryd.underlying84
 have HB:=Aside0.mk (Below.refl w.heap.size w)
 have H : ((wide_Of.f a0).bind fun bt224 => ((wide_Of.f a1).bind fun bt226 => ((wide_Add.f bt224.1 bt224.2 bt226.1 bt226.2).bind fun bt228 => ((fixq_of.f bt228.1 bt228.2.1).bind fun bt232 => (some (bt232.1,bt232.2)))))) = some (r1,r2):=h
 clear h;replace H:=Option.bind_eq_some_iff.mp H;obtain ⟨⟨t224,t225⟩,A30,H⟩:=H;replace H : ((wide_Of.f a1).bind fun bt226 => ((wide_Add.f t224 t225 bt226.1 bt226.2).bind fun bt228 => ((fixq_of.f bt228.1 bt228.2.1).bind fun bt232 => (some (bt232.1,bt232.2))))) = some (r1,r2):=H;have A3:=Aside0.mk A30;clear A30;replace H:=Option.bind_eq_some_iff.mp H;obtain ⟨⟨t226,t227⟩,A40,H⟩:=H;replace H : ((wide_Add.f t224 t225 t226 t227).bind fun bt228 => ((fixq_of.f bt228.1 bt228.2.1).bind fun bt232 => (some (bt232.1,bt232.2)))) = some (r1,r2):=H;have A4:=Aside0.mk A40;clear A40;replace H:=Option.bind_eq_some_iff.mp H;obtain ⟨⟨t228,t229,t230⟩,A50,H⟩:=H;replace H : ((fixq_of.f t228 t229).bind fun bt232 => (some (bt232.1,bt232.2))) = some (r1,r2):=H;have A5:=Aside0.mk A50;clear A50;replace H:=Option.bind_eq_some_iff.mp H;obtain ⟨⟨t232,t233⟩,A60,H⟩:=H;replace H : (some (t232,t233)) = some (r1,r2):=H;have A6:=Aside0.mk A60;clear A60
 simp only [Option.some.injEq,Prod.mk.injEq] at H
 obtain ⟨rfl,rfl⟩:=H
 go_enter Tryd.func38,Tryd.ntmps38
 go_wp2_with (first | (go_at_call 49;(with_reducible refine (wide_Of.calls a0 t224 t225 _ A3.out).mono ?_);rintro e w7 ⟨rfl,hb⟩;have n0_:=Aside0.mk (below_step bA hb);clear HB;have HB:=n0_;clear n0_;(try clear hb)) | (go_at_call 49;(with_reducible refine (wide_Of.calls a1 t226 t227 _ A4.out).mono ?_);rintro e w8 ⟨rfl,hb⟩;have n0_:=Aside0.mk (below_step bA hb);clear HB;have HB:=n0_;clear n0_;(try clear hb)) | (go_at_call 62;(with_reducible refine (wide_Add.calls t224 t225 t226 t227 t228 t229 t230 _ A5.out).mono ?_);rintro e w9 ⟨rfl,hb⟩;have n0_:=Aside0.mk (below_step bA hb);clear HB;have HB:=n0_;clear n0_;(try clear hb)) | ((with_reducible refine gate_dst (N:=6) rfl ?_);refine bxA 6 #[.int .u64 0,.int .u64 0] 87 ?_;intro gb231 hg w10 hbox hb;have n0_:=Aside0.mk (below_step bA hb);have n1_:=Aside0.mk (hbox);have n2_:=Aside0.mk (gwA hg bA);have n3_:=Aside0.mk (gwA hg bA);clear HB;have HB:=n0_;have BK231:=n1_;have GW231:=n2_;have GE231:=n3_;clear n0_ n1_ n2_ n3_ hb hbox hg;have hcz11_0 : w10.cell? ⟨gb231,0,none⟩ = some (.int .u64 0):=(blk_cell BK231.out 0).trans rfl;have hcz11_1 : w10.cell? ⟨gb231,1,none⟩ = some (.int .u64 0):=(blk_cell BK231.out 1).trans rfl;have hfz11_0:=blk_frozen BK231.out 0;have hfz11_1:=blk_frozen BK231.out 1) | (go_at_call 47;(with_reducible refine (fixq_of.calls t228 t229 t232 t233 _ A6.out).mono ?_);rintro e w12 ⟨rfl,hb⟩;have n0_:=Aside0.mk (blk_below (g:=gb231) (o:=.cells #[.int .u64 t228,.int .u64 t229] 87 (0,0)) (by (with_reducible repeat (first | refine blk_drewN ?_ _ | refine blk_drew ?_ | refine blk_alloc ?_ _));refine blk_put (cs:=#[.int .u64 t228,.int .u64 0]) ?_ 1 _ rfl;(with_reducible repeat (first | refine blk_drewN ?_ _ | refine blk_drew ?_ | refine blk_alloc ?_ _));refine blk_put (cs:=#[.int .u64 0,.int .u64 0]) ?_ 0 _ rfl;exact kA) hb);have n1_:=Aside0.mk (below_step bA hb);clear BK231 HB;have BK231:=n0_;have HB:=n1_;clear n0_ n1_;(try clear hb)) | ((with_reducible refine gate_dst (N:=8) rfl ?_);refine bxA 8 #[.int .u64 0,.bool false] 84 ?_;intro gb234 hg w13 hbox hb;have n0_:=Aside0.mk (blk_below (g:=gb231) kA hb);have n1_:=Aside0.mk (below_step bA hb);have n2_:=Aside0.mk (hbox);have n3_:=Aside0.mk (gwA hg bA);have n4_:=Aside0.mk (gwA hg bA);have n5_:=Aside0.mk (neA (g:=gb231) hg kA);have n6_:=Aside0.mk (neB (g:=gb231) hg kA);clear BK231 HB;have BK231:=n0_;have HB:=n1_;have BK234:=n2_;have GW234:=n3_;have GE234:=n4_;have NB231_234:=n5_;have NB234_231:=n6_;clear n0_ n1_ n2_ n3_ n4_ n5_ n6_ hb hbox hg;have hnb14:=NB234_231.out;have hnc14:=NB231_234.out;have hcz15_0 : w13.cell? ⟨gb234,0,none⟩ = some (.int .u64 0):=(blk_cell BK234.out 0).trans rfl;have hcz15_1 : w13.cell? ⟨gb234,1,none⟩ = some (.bool false):=(blk_cell BK234.out 1).trans rfl;have hfz15_0:=blk_frozen BK234.out 0;have hfz15_1:=blk_frozen BK234.out 1))
 repeat (go_quiet (first | (go_at_call 49;(with_reducible refine (wide_Of.calls a0 t224 t225 _ A3.out).mono ?_);rintro e w7 ⟨rfl,hb⟩;have n0_:=Aside0.mk (below_step bA hb);clear HB;have HB:=n0_;clear n0_;(try clear hb)) | (go_at_call 49;(with_reducible refine (wide_Of.calls a1 t226 t227 _ A4.out).mono ?_);rintro e w8 ⟨rfl,hb⟩;have n0_:=Aside0.mk (below_step bA hb);clear HB;have HB:=n0_;clear n0_;(try clear hb)) | (go_at_call 62;(with_reducible refine (wide_Add.calls t224 t225 t226 t227 t228 t229 t230 _ A5.out).mono ?_);rintro e w9 ⟨rfl,hb⟩;have n0_:=Aside0.mk (below_step bA hb);clear HB;have HB:=n0_;clear n0_;(try clear hb)) | ((with_reducible refine gate_dst (N:=6) rfl ?_);refine bxA 6 #[.int .u64 0,.int .u64 0] 87 ?_;intro gb231 hg w10 hbox hb;have n0_:=Aside0.mk (below_step bA hb);have n1_:=Aside0.mk (hbox);have n2_:=Aside0.mk (gwA hg bA);have n3_:=Aside0.mk (gwA hg bA);clear HB;have HB:=n0_;have BK231:=n1_;have GW231:=n2_;have GE231:=n3_;clear n0_ n1_ n2_ n3_ hb hbox hg;have hcz11_0 : w10.cell? ⟨gb231,0,none⟩ = some (.int .u64 0):=(blk_cell BK231.out 0).trans rfl;have hcz11_1 : w10.cell? ⟨gb231,1,none⟩ = some (.int .u64 0):=(blk_cell BK231.out 1).trans rfl;have hfz11_0:=blk_frozen BK231.out 0;have hfz11_1:=blk_frozen BK231.out 1) | (go_at_call 47;(with_reducible refine (fixq_of.calls t228 t229 t232 t233 _ A6.out).mono ?_);rintro e w12 ⟨rfl,hb⟩;have n0_:=Aside0.mk (blk_below (g:=gb231) (o:=.cells #[.int .u64 t228,.int .u64 t229] 87 (0,0)) (by (with_reducible repeat (first | refine blk_drewN ?_ _ | refine blk_drew ?_ | refine blk_alloc ?_ _));refine blk_put (cs:=#[.int .u64 t228,.int .u64 0]) ?_ 1 _ rfl;(with_reducible repeat (first | refine blk_drewN ?_ _ | refine blk_drew ?_ | refine blk_alloc ?_ _));refine blk_put (cs:=#[.int .u64 0,.int .u64 0]) ?_ 0 _ rfl;exact kA) hb);have n1_:=Aside0.mk (below_step bA hb);clear BK231 HB;have BK231:=n0_;have HB:=n1_;clear n0_ n1_;(try clear hb)) | ((with_reducible refine gate_dst (N:=8) rfl ?_);refine bxA 8 #[.int .u64 0,.bool false] 84 ?_;intro gb234 hg w13 hbox hb;have n0_:=Aside0.mk (blk_below (g:=gb231) kA hb);have n1_:=Aside0.mk (below_step bA hb);have n2_:=Aside0.mk (hbox);have n3_:=Aside0.mk (gwA hg bA);have n4_:=Aside0.mk (gwA hg bA);have n5_:=Aside0.mk (neA (g:=gb231) hg kA);have n6_:=Aside0.mk (neB (g:=gb231) hg kA);clear BK231 HB;have BK231:=n0_;have HB:=n1_;have BK234:=n2_;have GW234:=n3_;have GE234:=n4_;have NB231_234:=n5_;have NB234_231:=n6_;clear n0_ n1_ n2_ n3_ n4_ n5_ n6_ hb hbox hg;have hnb14:=NB234_231.out;have hnc14:=NB231_234.out;have hcz15_0 : w13.cell? ⟨gb234,0,none⟩ = some (.int .u64 0):=(blk_cell BK234.out 0).trans rfl;have hcz15_1 : w13.cell? ⟨gb234,1,none⟩ = some (.bool false):=(blk_cell BK234.out 1).trans rfl;have hfz15_0:=blk_frozen BK234.out 0;have hfz15_1:=blk_frozen BK234.out 1));try go_wp2_with (first | (go_at_call 49;(with_reducible refine (wide_Of.calls a0 t224 t225 _ A3.out).mono ?_);rintro e w7 ⟨rfl,hb⟩;have n0_:=Aside0.mk (below_step bA hb);clear HB;have HB:=n0_;clear n0_;(try clear hb)) | (go_at_call 49;(with_reducible refine (wide_Of.calls a1 t226 t227 _ A4.out).mono ?_);rintro e w8 ⟨rfl,hb⟩;have n0_:=Aside0.mk (below_step bA hb);clear HB;have HB:=n0_;clear n0_;(try clear hb)) | (go_at_call 62;(with_reducible refine (wide_Add.calls t224 t225 t226 t227 t228 t229 t230 _ A5.out).mono ?_);rintro e w9 ⟨rfl,hb⟩;have n0_:=Aside0.mk (below_step bA hb);clear HB;have HB:=n0_;clear n0_;(try clear hb)) | ((with_reducible refine gate_dst (N:=6) rfl ?_);refine bxA 6 #[.int .u64 0,.int .u64 0] 87 ?_;intro gb231 hg w10 hbox hb;have n0_:=Aside0.mk (below_step bA hb);have n1_:=Aside0.mk (hbox);have n2_:=Aside0.mk (gwA hg bA);have n3_:=Aside0.mk (gwA hg bA);clear HB;have HB:=n0_;have BK231:=n1_;have GW231:=n2_;have GE231:=n3_;clear n0_ n1_ n2_ n3_ hb hbox hg;have hcz11_0 : w10.cell? ⟨gb231,0,none⟩ = some (.int .u64 0):=(blk_cell BK231.out 0).trans rfl;have hcz11_1 : w10.cell? ⟨gb231,1,none⟩ = some (.int .u64 0):=(blk_cell BK231.out 1).trans rfl;have hfz11_0:=blk_frozen BK231.out 0;have hfz11_1:=blk_frozen BK231.out 1) | (go_at_call 47;(with_reducible refine (fixq_of.calls t228 t229 t232 t233 _ A6.out).mono ?_);rintro e w12 ⟨rfl,hb⟩;have n0_:=Aside0.mk (blk_below (g:=gb231) (o:=.cells #[.int .u64 t228,.int .u64 t229] 87 (0,0)) (by (with_reducible repeat (first | refine blk_drewN ?_ _ | refine blk_drew ?_ | refine blk_alloc ?_ _));refine blk_put (cs:=#[.int .u64 t228,.int .u64 0]) ?_ 1 _ rfl;(with_reducible repeat (first | refine blk_drewN ?_ _ | refine blk_drew ?_ | refine blk_alloc ?_ _));refine blk_put (cs:=#[.int .u64 0,.int .u64 0]) ?_ 0 _ rfl;exact kA) hb);have n1_:=Aside0.mk (below_step bA hb);clear BK231 HB;have BK231:=n0_;have HB:=n1_;clear n0_ n1_;(try clear hb)) | ((with_reducible refine gate_dst (N:=8) rfl ?_);refine bxA 8 #[.int .u64 0,.bool false] 84 ?_;intro gb234 hg w13 hbox hb;have n0_:=Aside0.mk (blk_below (g:=gb231) kA hb);have n1_:=Aside0.mk (below_step bA hb);have n2_:=Aside0.mk (hbox);have n3_:=Aside0.mk (gwA hg bA);have n4_:=Aside0.mk (gwA hg bA);have n5_:=Aside0.mk (neA (g:=gb231) hg kA);have n6_:=Aside0.mk (neB (g:=gb231) hg kA);clear BK231 HB;have BK231:=n0_;have HB:=n1_;have BK234:=n2_;have GW234:=n3_;have GE234:=n4_;have NB231_234:=n5_;have NB234_231:=n6_;clear n0_ n1_ n2_ n3_ n4_ n5_ n6_ hb hbox hg;have hnb14:=NB234_231.out;have hnc14:=NB231_234.out;have hcz15_0 : w13.cell? ⟨gb234,0,none⟩ = some (.int .u64 0):=(blk_cell BK234.out 0).trans rfl;have hcz15_1 : w13.cell? ⟨gb234,1,none⟩ = some (.bool false):=(blk_cell BK234.out 1).trans rfl;have hfz15_0:=blk_frozen BK234.out 0;have hfz15_1:=blk_frozen BK234.out 1)))
 go_ret2
 exact ⟨by first | rfl | (simp [errW_none,errW_some] <;> rfl) | (simp [*,errW_none,errW_some] <;> rfl),bA⟩

def decay_Charge.f (a0 : Int) (a1 : Int) : Option (Int):=if a1 < 0 then (some a0) else ((fixq_Of.f a1).bind fun bt235 => ((fixq_Add.f a0 bt235.1).bind fun bt237 => (some bt237.1)))
set_option maxHeartbeats 8000000 in
set_option maxRecDepth 100000 in
theorem decay_Charge.calls (a0 : Int) (a1 : Int) (r : Int) (w : World) (h : decay_Charge.f a0 a1 = some r) :
  Calls Tryd.prog 46 #[.int .u64 a0,.int .i64 a1] w fun e w' => e = .returned (.int .u64 r) ∧ Below w.heap.size w w':=by
 have HB:=Aside0.mk (Below.refl w.heap.size w)
 have H : (if a1 < 0 then (some a0) else ((fixq_Of.f a1).bind fun bt235 => ((fixq_Add.f a0 bt235.1).bind fun bt237 => (some bt237.1)))) = some r:=h
 clear h
 by_cases c3 : a1 < 0
 ·rw [if_pos c3] at H
  have c3b0 : decide (a1 < 0) = true:=decide_eq_true c3
  clear c3
  obtain rfl:=Option.some.inj H
  go_enter Tryd.func46,Tryd.ntmps46
  go_wp2
  go_ret
  exact ⟨by first | rfl | (simp [errW_none,errW_some] <;> rfl) | (simp [*,errW_none,errW_some] <;> rfl),bA⟩
 ·rw [if_neg c3] at H
  have c3b0 : decide (a1 < 0) = false:=decide_eq_false c3
  clear c3;replace H:=Option.bind_eq_some_iff.mp H;obtain ⟨⟨t235,t236⟩,A40,H⟩:=H;replace H : ((fixq_Add.f a0 t235).bind fun bt237 => (some bt237.1)) = some r:=H;have A4:=Aside0.mk A40;clear A40;replace H:=Option.bind_eq_some_iff.mp H;obtain ⟨⟨t237,t238⟩,A50,H⟩:=H;replace H : (some t237) = some r:=H;have A5:=Aside0.mk A50;clear A50
  obtain rfl:=Option.some.inj H
  go_enter Tryd.func46,Tryd.ntmps46
  go_wp2_with (first | ((with_reducible refine gate_callee (f:=24) rfl ?_);refine goesL_ (some 14) rfl rfl Tryd.func24 (by kernel_rfl) rfl #[.int .i64 a1] rfl aA ?_;(with_reducible refine (fixq_Of.calls a1 t235 t236 _ A4.out).mono ?_);rintro e w6 ⟨rfl,hb⟩;refine ⟨_,rfl,?_⟩;have n0_:=Aside0.mk (below_step bA hb);clear HB;have HB:=n0_;clear n0_;(try clear hb)) | ((with_reducible refine gate_callee (f:=38) rfl ?_);refine goesL_ (some 20) rfl rfl Tryd.func38 (by kernel_rfl) rfl #[.int .u64 a0,.int .u64 t235] rfl aA ?_;(with_reducible refine (fixq_Add.calls a0 t235 t237 t238 _ A5.out).mono ?_);rintro e w7 ⟨rfl,hb⟩;refine ⟨_,rfl,?_⟩;have n0_:=Aside0.mk (below_step bA hb);clear HB;have HB:=n0_;clear n0_;(try clear hb)))
  go_ret
  exact ⟨by first | rfl | (simp [errW_none,errW_some] <;> rfl) | (simp [*,errW_none,errW_some] <;> rfl),bA⟩


def backfilllaw12_plain.f  : Option (Int × Int × Int × Int × Int × Int × Int × Int):=some (4,8,10,1,0,0,100,100)
set_option maxHeartbeats 8000000 in
set_option maxRecDepth 100000 in
theorem backfilllaw12_plain.calls  (r1 : Int) (r2 : Int) (r3 : Int) (r4 : Int) (r5 : Int) (r6 : Int) (r7 : Int) (r8 : Int) (w : World) (h : backfilllaw12_plain.f  = some (r1,r2,r3,r4,r5,r6,r7,r8)) :
  Calls Tryd.prog 28 #[] w fun e w' => e = .returned (.agg #[.int .i64 r1,.int .i64 r2,.int .i64 r3,.int .i64 r4,.int .i64 r5,.int .i64 r6,.int .i64 r7,.int .i64 r8]) ∧ Below w.heap.size w w':=by
 have hu23:=Tryd.underlying23
 have HB:=Aside0.mk (Below.refl w.heap.size w)
 have H : (some (4,8,10,1,0,0,100,100)) = some (r1,r2,r3,r4,r5,r6,r7,r8):=h
 clear h
 simp only [Option.some.injEq,Prod.mk.injEq] at H
 obtain ⟨rfl,rfl,rfl,rfl,rfl,rfl,rfl,rfl⟩:=H
 go_enter Tryd.func28,Tryd.ntmps28
 go_wp2_with (first | ((with_reducible refine gate_dst (N:=0) rfl ?_);refine bxA 0 #[.int .i64 0,.int .i64 0,.int .i64 0,.int .i64 0,.int .i64 0,.int .i64 0,.int .i64 0,.int .i64 0] 23 ?_;intro gb239 hg w1 hbox hb;have n0_:=Aside0.mk (below_step bA hb);have n1_:=Aside0.mk (hbox);have n2_:=Aside0.mk (gwA hg bA);have n3_:=Aside0.mk (gwA hg bA);clear HB;have HB:=n0_;have BK239:=n1_;have GW239:=n2_;have GE239:=n3_;clear n0_ n1_ n2_ n3_ hb hbox hg;have hcz2_0 : w1.cell? ⟨gb239,0,none⟩ = some (.int .i64 0):=(blk_cell BK239.out 0).trans rfl;have hcz2_1 : w1.cell? ⟨gb239,1,none⟩ = some (.int .i64 0):=(blk_cell BK239.out 1).trans rfl;have hcz2_2 : w1.cell? ⟨gb239,2,none⟩ = some (.int .i64 0):=(blk_cell BK239.out 2).trans rfl;have hcz2_3 : w1.cell? ⟨gb239,3,none⟩ = some (.int .i64 0):=(blk_cell BK239.out 3).trans rfl;have hcz2_4 : w1.cell? ⟨gb239,4,none⟩ = some (.int .i64 0):=(blk_cell BK239.out 4).trans rfl;have hcz2_5 : w1.cell? ⟨gb239,5,none⟩ = some (.int .i64 0):=(blk_cell BK239.out 5).trans rfl;have hcz2_6 : w1.cell? ⟨gb239,6,none⟩ = some (.int .i64 0):=(blk_cell BK239.out 6).trans rfl;have hcz2_7 : w1.cell? ⟨gb239,7,none⟩ = some (.int .i64 0):=(blk_cell BK239.out 7).trans rfl;have hfz2_0:=blk_frozen BK239.out 0;have hfz2_1:=blk_frozen BK239.out 1;have hfz2_2:=blk_frozen BK239.out 2;have hfz2_3:=blk_frozen BK239.out 3;have hfz2_4:=blk_frozen BK239.out 4;have hfz2_5:=blk_frozen BK239.out 5;have hfz2_6:=blk_frozen BK239.out 6;have hfz2_7:=blk_frozen BK239.out 7))
 refine bodyPost_ret (results_cell_row rfl _ _ gb239 23 #[.int .i64 4,.int .i64 8,.int .i64 10,.int .i64 1,.int .i64 0,.int .i64 0,.int .i64 100,.int .i64 100] (0,0) _ rfl (by (with_reducible repeat (first | refine blk_drewN ?_ _ | refine blk_drew ?_ | refine blk_alloc ?_ _));refine blk_put (cs:=#[.int .i64 4,.int .i64 8,.int .i64 10,.int .i64 1,.int .i64 0,.int .i64 0,.int .i64 100,.int .i64 0]) ?_ 7 _ rfl;(with_reducible repeat (first | refine blk_drewN ?_ _ | refine blk_drew ?_ | refine blk_alloc ?_ _));refine blk_put (cs:=#[.int .i64 4,.int .i64 8,.int .i64 10,.int .i64 1,.int .i64 0,.int .i64 0,.int .i64 0,.int .i64 0]) ?_ 6 _ rfl;(with_reducible repeat (first | refine blk_drewN ?_ _ | refine blk_drew ?_ | refine blk_alloc ?_ _));refine blk_put (cs:=#[.int .i64 4,.int .i64 8,.int .i64 10,.int .i64 1,.int .i64 0,.int .i64 0,.int .i64 0,.int .i64 0]) ?_ 5 _ rfl;(with_reducible repeat (first | refine blk_drewN ?_ _ | refine blk_drew ?_ | refine blk_alloc ?_ _));refine blk_put (cs:=#[.int .i64 4,.int .i64 8,.int .i64 10,.int .i64 1,.int .i64 0,.int .i64 0,.int .i64 0,.int .i64 0]) ?_ 4 _ rfl;(with_reducible repeat (first | refine blk_drewN ?_ _ | refine blk_drew ?_ | refine blk_alloc ?_ _));refine blk_put (cs:=#[.int .i64 4,.int .i64 8,.int .i64 10,.int .i64 0,.int .i64 0,.int .i64 0,.int .i64 0,.int .i64 0]) ?_ 3 _ rfl;(with_reducible repeat (first | refine blk_drewN ?_ _ | refine blk_drew ?_ | refine blk_alloc ?_ _));refine blk_put (cs:=#[.int .i64 4,.int .i64 8,.int .i64 0,.int .i64 0,.int .i64 0,.int .i64 0,.int .i64 0,.int .i64 0]) ?_ 2 _ rfl;(with_reducible repeat (first | refine blk_drewN ?_ _ | refine blk_drew ?_ | refine blk_alloc ?_ _));refine blk_put (cs:=#[.int .i64 4,.int .i64 0,.int .i64 0,.int .i64 0,.int .i64 0,.int .i64 0,.int .i64 0,.int .i64 0]) ?_ 1 _ rfl;(with_reducible repeat (first | refine blk_drewN ?_ _ | refine blk_drew ?_ | refine blk_alloc ?_ _));refine blk_put (cs:=#[.int .i64 0,.int .i64 0,.int .i64 0,.int .i64 0,.int .i64 0,.int .i64 0,.int .i64 0,.int .i64 0]) ?_ 0 _ rfl;exact kA) Tryd.underlying23 rfl (by kernel_rfl)) rfl ?_
 exact ⟨by first | rfl | (simp [errW_none,errW_some] <;> rfl) | (simp [*,errW_none,errW_some] <;> rfl),bA⟩


end Go.Proofs.YtgjjfnjnjnbfgaaDoor.GLG
namespace Go.Proofs.YtgjjfnjnjnbfgaaDoor.Q
open Go.RowKit Go.Proofs.YtgjjfnjnjnbfgaaDoorW.PrintWords Go.Proofs.YtgjjfnjnjnbfgaaDoorW.PrintLast Go.Proofs.YtgjjfnjnjnbfgaaDoorW.PrintMore
/-- A word of 64 bits. -/
def U (x : Int) : Prop:=0 ≤ x ∧ x < 18446744073709551616
theorem w64 (x : Int) : IntKind.u64.wrap x = x % 18446744073709551616:=by simp [IntKind.wrap,IntKind.bits,IntKind.signed]
theorem w64_in {x : Int} (h0 : 0 ≤ x) (h1 : x < 18446744073709551616) : IntKind.u64.wrap x = x:=by rw [w64];omega
theorem wraps_u64 (n : Int) (h0 : 0 ≤ n) (h1 : n < 2 ^ 64) : IntKind.u64.wrap n = n:=by rw [w64];omega
theorem and32 {x : Int} (h : U x) : Go.bits .and .u64 x 4294967295 = x % 4294967296:=
  bits_mask .u64 64 (by decide) wraps_u64 32 (by decide) x h.1 (by have:=h.2;omega)
theorem and1 {x : Int} (h : U x) : Go.bits .and .u64 x 1 = x % 2:=
  bits_mask .u64 64 (by decide) wraps_u64 1 (by decide) x h.1 (by have:=h.2;omega)
theorem or_add {x y : Int} (i : Nat) (hx : U x) (hm : x % 2 ^ i = 0) (hy0 : 0 ≤ y) (hy : y < 2 ^ i) (hy1 : y < 18446744073709551616) : Go.bits .or .u64 x y = x + y:=
  bits_join .u64 64 (by decide) wraps_u64 i x y hx.1 hm (by have:=hx.2;omega) hy0 hy (by omega)
theorem shr_at {x : Int} (n : Nat) (h : n ≤ 64) : shr .u64 x (n : Int) = x / 2 ^ n:=by unfold shr;rw [Int.toNat_natCast,show min n IntKind.u64.bits = n from Nat.min_eq_left h]
theorem shl_at {x : Int} (n : Nat) (h : n ≤ 64) : shl .u64 x (n : Int) = (x * 2 ^ n) % 18446744073709551616:=by unfold shl;rw [Int.toNat_natCast,show min n IntKind.u64.bits = n from Nat.min_eq_left h,w64]
theorem wrap64_in {x : Int} (h0 : -9223372036854775808 ≤ x) (h1 : x ≤ 9223372036854775807) : wrap64 x = x:=by unfold wrap64;omega
theorem tdiv_eq {a b : Int} (h : 0 ≤ a) : Int.tdiv a b = a / b:=Int.tdiv_eq_ediv_of_nonneg h
/-- The product of two words by halves. -/
theorem mul_halves (a b : Int) : a * b = (a / 4294967296) * (b / 4294967296) * 18446744073709551616 + ((a / 4294967296) * (b % 4294967296) + (a % 4294967296) * (b / 4294967296)) * 4294967296 + (a % 4294967296) * (b % 4294967296):=by
  have ha : a = (a / 4294967296) * 4294967296 + a % 4294967296:=by omega
  have hb : b = (b / 4294967296) * 4294967296 + b % 4294967296:=by omega
  generalize a / 4294967296 = p at *
  generalize a % 4294967296 = q at *
  generalize b / 4294967296 = r at *
  generalize b % 4294967296 = s at *
  subst ha hb
  have e : (p * 4294967296 + q) * (r * 4294967296 + s) = p * r * (4294967296 * 4294967296) + (p * s + q * r) * 4294967296 + q * s:=by
    simp only [Int.add_mul,Int.mul_add]
    have h1 : p * 4294967296 * (r * 4294967296) = p * r * (4294967296 * 4294967296):=by rw [Int.mul_assoc,Int.mul_left_comm 4294967296,← Int.mul_assoc p]
    have h2 : p * 4294967296 * s = p * s * 4294967296:=by rw [Int.mul_right_comm]
    have h3 : q * (r * 4294967296) = q * r * 4294967296:=by rw [Int.mul_assoc]
    rw [h1,h2,h3]
    omega
  rw [e]
  omega
theorem half_bd {x y : Int} (hx0 : 0 ≤ x) (hx : x < 4294967296) (hy0 : 0 ≤ y) (hy : y < 4294967296) : 0 ≤ x * y ∧ x * y ≤ 18446744065119617025:=by
  refine ⟨Int.mul_nonneg hx0 hy0,?_⟩
  have h1 : x * y ≤ 4294967295 * y:=Int.mul_le_mul_of_nonneg_right (by omega) hy0
  omega
theorem mul_bd {x y : Int} (hx : U x) (hy : U y) : 0 ≤ x * y ∧ x * y ≤ 340282366920938463426481119284349108225:=by
  refine ⟨Int.mul_nonneg hx.1 hy.1,?_⟩
  have h1 : x * y ≤ 18446744073709551615 * y:=Int.mul_le_mul_of_nonneg_right (by have:=hx.2;omega) hy.1
  have:=hy.2
  omega
/-- A number of two words. -/
def V (h l : Int) : Int:=h * 18446744073709551616 + l
theorem V_hi {h l : Int} (hl : U l) : V h l / 18446744073709551616 = h:=by unfold V;have:=hl.1;have:=hl.2;omega
theorem V_lo {h l : Int} (hl : U l) : V h l % 18446744073709551616 = l:=by unfold V;have:=hl.1;have:=hl.2;omega
def addV (x y : Int) : Int × Int × Bool:=if x + y < 340282366920938463463374607431768211456 then ((x + y) / 18446744073709551616,(x + y) % 18446744073709551616,true) else (18446744073709551615,18446744073709551615,false)
/-- A number,if a word holds it. -/
def capV (v : Int) : Int × Bool:=if v < 18446744073709551616 then (v,true) else (18446744073709551615,false)
def cmpV (x y : Int) : Int:=if x < y then -1 else if x = y then 0 else 1
theorem or_comm_ (k : IntKind) (x y : Int) : Go.bits .or k x y = Go.bits .or k y x:=by unfold Go.bits;simp only [BitVec.or_comm]
theorem wf_u {a : Int} (h : (Lit.int .u64 a).wf = true) : U a:=by
  simp [Lit.wf,IntKind.min,IntKind.max,IntKind.bits,IntKind.signed] at h
  exact ⟨h.1,by omega⟩
end Go.Proofs.YtgjjfnjnjnbfgaaDoor.Q
namespace Go.Proofs.YtgjjfnjnjnbfgaaDoor.Q
open Go.RowKit Go.Proofs.YtgjjfnjnjnbfgaaDoor.GLG Go.Proofs.YtgjjfnjnjnbfgaaDoorW.PrintWords Go.Proofs.YtgjjfnjnjnbfgaaDoorW.PrintLast Go.Proofs.YtgjjfnjnjnbfgaaDoorW.PrintMore
theorem mul64 {a b : Int} (ha : U a) (hb : U b) : bits_Mul64.f a b = some (a * b / 18446744073709551616,a * b % 18446744073709551616):=by
  unfold bits_Mul64.f
  have e:=mul_halves a b
  obtain ⟨a0,a1⟩:=ha
  obtain ⟨b0,b1⟩:=hb
  rw [and32 ⟨a0,a1⟩,and32 ⟨b0,b1⟩]
  have p1:=half_bd (x:=a / 4294967296) (y:=b / 4294967296) (by omega) (by omega) (by omega) (by omega)
  have p2:=half_bd (x:=a / 4294967296) (y:=b % 4294967296) (by omega) (by omega) (by omega) (by omega)
  have p3:=half_bd (x:=a % 4294967296) (y:=b / 4294967296) (by omega) (by omega) (by omega) (by omega)
  have p4:=half_bd (x:=a % 4294967296) (y:=b % 4294967296) (by omega) (by omega) (by omega) (by omega)
  generalize (a / 4294967296) * (b / 4294967296) = x1 at *
  generalize (a / 4294967296) * (b % 4294967296) = x2 at *
  generalize (a % 4294967296) * (b / 4294967296) = x3 at *
  generalize (a % 4294967296) * (b % 4294967296) = x4 at *
  generalize a * b = y at *
  rw [w64_in (x:=x4) (by omega) (by omega),w64_in (x:=x2) (by omega) (by omega),w64_in (x:=x3) (by omega) (by omega),w64_in (x:=x1) (by omega) (by omega)]
  rw [w64_in (x:=x2 + x4 / 4294967296) (by omega) (by omega),and32 (x:=x2 + x4 / 4294967296) ⟨by omega,by omega⟩]
  simp only [w64]
  congr 2
  omega
theorem wmul {a b : Int} (ha : U a) (hb : U b) : wide_Mul.f a b = some (a * b / 18446744073709551616,a * b % 18446744073709551616):=by
  unfold wide_Mul.f
  rw [mul64 ha hb];rfl
end Go.Proofs.YtgjjfnjnjnbfgaaDoor.Q
namespace Go.Proofs.YtgjjfnjnjnbfgaaDoor.Q
open Go.RowKit Go.Proofs.YtgjjfnjnjnbfgaaDoor.GLG Go.Proofs.YtgjjfnjnjnbfgaaDoorW.PrintWords Go.Proofs.YtgjjfnjnjnbfgaaDoorW.PrintLast Go.Proofs.YtgjjfnjnjnbfgaaDoorW.PrintMore
theorem add64 {a b c : Int} (ha : U a) (hb : U b) (hc : 0 ≤ c) (hc1 : c ≤ 1) : bits_Add64.f a b c = some ((a + b + c) % 18446744073709551616,(a + b + c) / 18446744073709551616):=by
  unfold bits_Add64.f
  rw [if_pos ⟨ha.1,hb.1,hc,hc1⟩]
theorem wadd {ah al bh bl : Int} (h1 : U ah) (h2 : U al) (h3 : U bh) (h4 : U bl) : wide_Add.f ah al bh bl = some (addV (V ah al) (V bh bl)):=by
  unfold wide_Add.f wide_greatest.f addV V
  rw [add64 h2 h4 (by omega) (by omega)]
  simp only [Option.bind_some]
  obtain ⟨h1a,h1b⟩:=h1;obtain ⟨h2a,h2b⟩:=h2;obtain ⟨h3a,h3b⟩:=h3;obtain ⟨h4a,h4b⟩:=h4
  rw [add64 ⟨h1a,h1b⟩ ⟨h3a,h3b⟩ (by omega) (by omega)]
  simp only [Option.bind_some]
  by_cases hc : ah * 18446744073709551616 + al + (bh * 18446744073709551616 + bl) < 340282366920938463463374607431768211456
  · rw [if_pos hc,if_neg (by omega)]
    congr 2
    · omega
    · congr 1
      omega
  · rw [if_neg hc,if_pos (by omega)]
end Go.Proofs.YtgjjfnjnjnbfgaaDoor.Q
namespace Go.Proofs.YtgjjfnjnjnbfgaaDoor.Q
open Go.RowKit Go.Proofs.YtgjjfnjnjnbfgaaDoorW.PrintWords Go.Proofs.YtgjjfnjnjnbfgaaDoorW.PrintLast Go.Proofs.YtgjjfnjnjnbfgaaDoorW.PrintMore
theorem pow_bd (n : Nat) (h : n ≤ 64) : (2 : Int) ^ n ≤ 18446744073709551616:=by
  have : (2 : Nat) ^ n ≤ 2 ^ 64:=Nat.pow_le_pow_right (by decide) h
  have h2 : ((2 ^ n : Nat) : Int) ≤ ((2 ^ 64 : Nat) : Int):=by exact_mod_cast this
  simpa using h2
theorem pow_pos_ (n : Nat) : (0 : Int) < 2 ^ n:=by
  have : 0 < 2 ^ n:=Nat.two_pow_pos n
  exact_mod_cast this
theorem pow_split (n : Nat) (h : n ≤ 64) : (2 : Int) ^ n * 2 ^ (64 - n) = 18446744073709551616:=by
  rw [← Int.pow_add,show n + (64 - n) = 64 by omega];rfl
theorem emod_pow {x : Int} (n : Nat) (h : n ≤ 64) : (x * 2 ^ n) % 18446744073709551616 % 2 ^ n = 0:=by
  rw [← pow_split n h,Int.emod_emod_of_dvd _ (Int.dvd_mul_right _ _)]
  simp
theorem div_lt_pow {x : Int} (n : Nat) (h : n ≤ 64) (hx : U x) : 0 ≤ x / 2 ^ (64 - n) ∧ x / 2 ^ (64 - n) < 2 ^ n:=by
  refine ⟨Int.ediv_nonneg hx.1 (Int.le_of_lt (pow_pos_ _)),?_⟩
  apply Int.ediv_lt_of_lt_mul (pow_pos_ _)
  rw [pow_split n h]
  exact hx.2
theorem umod (x : Int) : U (x % 18446744073709551616):=⟨by omega,by omega⟩
/-- What a shift to the left by fewer than 64 bits comes to. -/
def shlV (h l : Int) (n : Nat) : Int × Int:=((h * 2 ^ n) % 18446744073709551616 + l / 2 ^ (64 - n),(l * 2 ^ n) % 18446744073709551616)
def shrV (h l : Int) (n : Nat) : Int × Int:=(h / 2 ^ n,(h * 2 ^ (64 - n)) % 18446744073709551616 + l / 2 ^ n)
theorem shl_sum {h l : Int} (hh : U h) (hl : U l) (n : Nat) (h1 : n ≤ 64) : 0 ≤ (h * 2 ^ n) % 18446744073709551616 + l / 2 ^ (64 - n) ∧ (h * 2 ^ n) % 18446744073709551616 + l / 2 ^ (64 - n) < 18446744073709551616:=by
  have d:=div_lt_pow (x:=l) n h1 hl
  have u:=umod (h * 2 ^ n)
  have m:=emod_pow (x:=h) n h1
  have p:=pow_pos_ n
  refine ⟨by have:=u.1;omega,?_⟩
  obtain ⟨q,hq⟩:=Int.dvd_of_emod_eq_zero m
  have hs:=pow_split n h1
  rw [hq] at u ⊢
  have hq1 : q < 2 ^ (64 - n):=by
    have h2:=u.2
    rw [← hs] at h2
    exact Int.lt_of_mul_lt_mul_left h2 (Int.le_of_lt p)
  have h3 : 2 ^ n * (q + 1) ≤ 2 ^ n * 2 ^ (64 - n):=Int.mul_le_mul_of_nonneg_left (by omega) (Int.le_of_lt p)
  rw [hs,Int.mul_add] at h3
  omega
end Go.Proofs.YtgjjfnjnjnbfgaaDoor.Q
namespace Go.Proofs.YtgjjfnjnjnbfgaaDoor.Q
open Go.RowKit Go.Proofs.YtgjjfnjnjnbfgaaDoor.GLG Go.Proofs.YtgjjfnjnjnbfgaaDoorW.PrintWords Go.Proofs.YtgjjfnjnjnbfgaaDoorW.PrintLast Go.Proofs.YtgjjfnjnjnbfgaaDoorW.PrintMore
theorem wshl {h l : Int} (hh : U h) (hl : U l) (n : Nat) (h0 : 0 < n) (h1 : n < 64) : wide_Shl.f h l (n : Int) = some (shlV h l n):=by
  unfold wide_Shl.f shlV
  rw [if_neg (by omega),if_pos (by omega),if_pos (by omega),wrap64_in (by omega) (by omega),if_pos (by omega)]
  rw [show (64 - (n : Int)) = ((64 - n : Nat) : Int) by omega,shl_at n (by omega),shr_at (64 - n) (by omega),shl_at n (by omega)]
  have d:=div_lt_pow (x:=l) n (by omega) hl
  have:=pow_bd n (by omega)
  rw [or_add n (umod _) (emod_pow n (by omega)) d.1 d.2 (by omega)]
end Go.Proofs.YtgjjfnjnjnbfgaaDoor.Q
namespace Go.Proofs.YtgjjfnjnjnbfgaaDoor.Q
open Go.RowKit Go.Proofs.YtgjjfnjnjnbfgaaDoor.GLG Go.Proofs.YtgjjfnjnjnbfgaaDoorW.PrintWords Go.Proofs.YtgjjfnjnjnbfgaaDoorW.PrintLast Go.Proofs.YtgjjfnjnjnbfgaaDoorW.PrintMore
theorem wshr {h l : Int} (hh : U h) (hl : U l) (n : Nat) (h0 : 0 < n) (h1 : n < 64) : wide_Shr.f h l (n : Int) = some (shrV h l n):=by
  unfold wide_Shr.f shrV
  rw [if_neg (by omega),if_pos (by omega),if_pos (by omega),wrap64_in (by omega) (by omega),if_pos (by omega)]
  rw [show (64 - (n : Int)) = ((64 - n : Nat) : Int) by omega,shr_at n (by omega),shr_at n (by omega),shl_at (64 - n) (by omega),or_comm_]
  have d:=div_lt_pow (x:=l) (64 - n) (by omega) hl
  rw [show 64 - (64 - n) = n by omega] at d
  have:=pow_bd (64 - n) (by omega)
  rw [or_add (64 - n) (umod _) (emod_pow (64 - n) (by omega)) d.1 d.2 (by omega)]
end Go.Proofs.YtgjjfnjnjnbfgaaDoor.Q
namespace Go.Proofs.YtgjjfnjnjnbfgaaDoor.Q
open Go.RowKit Go.Proofs.YtgjjfnjnjnbfgaaDoor.GLG Go.Proofs.YtgjjfnjnjnbfgaaDoorW.PrintWords Go.Proofs.YtgjjfnjnjnbfgaaDoorW.PrintLast Go.Proofs.YtgjjfnjnjnbfgaaDoorW.PrintMore
theorem fq_of {h l : Int} (hh : 0 ≤ h) (hl : U l) : fixq_of.f h l = some (capV (V h l)):=by
  unfold fixq_of.f fixq_beyond.f capV V
  simp only [Option.bind_some]
  obtain ⟨a,b⟩:=hl
  by_cases c : h > 0
  · rw [if_pos c,if_neg (by omega)]
  · rw [if_neg c,if_pos (by omega)]
    congr 2
    omega
theorem shl32 {x : Int} (hx : U x) : wide_Shl.f 0 x 32 = some (x * 4294967296 / 18446744073709551616,x * 4294967296 % 18446744073709551616):=by
  have:=wshl (h:=0) (l:=x) ⟨by omega,by omega⟩ hx 32 (by decide) (by decide)
  rw [show ((32 : Nat) : Int) = 32 from rfl] at this
  rw [this]
  unfold shlV
  obtain ⟨a,b⟩:=hx
  congr 2
  simp
  omega
/-- A whole number. -/
def ofV (n : Int) : Int × Bool:=if n < 0 then (0,false) else capV (n * 4294967296)
theorem fq_Of {n : Int} (h : n ≤ 9223372036854775807) : fixq_Of.f n = some (ofV n):=by
  unfold fixq_Of.f ofV wide_Of.f
  by_cases c : n < 0
  · rw [if_pos c,if_pos c]
  · rw [if_neg c,if_neg c]
    simp only [Option.bind_some]
    rw [w64_in (by omega) (by omega),shl32 ⟨by omega,by omega⟩]
    simp only [Option.bind_some]
    rw [fq_of (by omega) (umod _)]
    simp only [Option.bind_some]
    rw [show V (n * 4294967296 / 18446744073709551616) (n * 4294967296 % 18446744073709551616) = n * 4294967296 by unfold V;omega]
theorem fq_add {a b : Int} (ha : U a) (hb : U b) : fixq_Add.f a b = some (capV (a + b)):=by
  unfold fixq_Add.f wide_Of.f
  simp only [Option.bind_some]
  rw [wadd ⟨by omega,by omega⟩ ha ⟨by omega,by omega⟩ hb]
  simp only [Option.bind_some]
  obtain ⟨a0,a1⟩:=ha;obtain ⟨b0,b1⟩:=hb
  have e1 : V 0 a + V 0 b = a + b:=by unfold V;omega
  unfold addV
  rw [e1,if_pos (by omega)]
  simp only []
  rw [fq_of (by omega) (umod _)]
  simp only [Option.bind_some]
  rw [show V ((a + b) / 18446744073709551616) ((a + b) % 18446744073709551616) = a + b by unfold V;omega]
/-- A part of a number. -/
def partV (a f : Int) : Int:=a * (if f > 9223372036854775808 then 9223372036854775808 else f) / 9223372036854775808
theorem part_le {a f : Int} (ha : U a) (hf : U f) : 0 ≤ partV a f ∧ partV a f ≤ a:=by
  unfold partV
  obtain ⟨a0,a1⟩:=ha;obtain ⟨f0,f1⟩:=hf
  have hm : ∃ g,(if f > 9223372036854775808 then 9223372036854775808 else f) = g ∧ 0 ≤ g ∧ g ≤ 9223372036854775808:=by
    split
    · exact ⟨_,rfl,by omega,by omega⟩
    · exact ⟨_,rfl,by omega,by omega⟩
  obtain ⟨g,hg,g0,g1⟩:=hm
  rw [hg]
  have p0 : 0 ≤ a * g:=Int.mul_nonneg a0 g0
  have p1 : a * g ≤ a * 9223372036854775808:=Int.mul_le_mul_of_nonneg_left g1 a0
  omega
theorem fq_part {a f : Int} (ha : U a) (hf : U f) : fixq_Part.f a f = some (partV a f):=by
  unfold fixq_Part.f
  have hl:=part_le ha hf
  unfold partV at hl ⊢
  have hm : ∃ g,(if f > 9223372036854775808 then 9223372036854775808 else f) = g ∧ mn f 9223372036854775808 = g ∧ 0 ≤ g ∧ g ≤ 9223372036854775808:=by
    unfold mn
    obtain ⟨f0,f1⟩:=hf
    by_cases c : f > 9223372036854775808
    · rw [if_pos c];exact ⟨_,rfl,rfl,by omega,by omega⟩
    · rw [if_neg c];exact ⟨_,rfl,rfl,by omega,by omega⟩
  obtain ⟨g,hg,hg2,g0,g1⟩:=hm
  rw [hg] at hl ⊢
  rw [hg2]
  have hg' : U g:=⟨g0,by omega⟩
  have m:=mul_bd ha hg'
  rw [wmul ha hg']
  simp only [Option.bind_some]
  have:=wshr (h:=a * g / 18446744073709551616) (l:=a * g % 18446744073709551616) ⟨by omega,by omega⟩ (umod _) 63 (by decide) (by decide)
  rw [show ((63 : Nat) : Int) = 63 from rfl] at this
  rw [this]
  unfold shrV
  simp only [Option.bind_some]
  obtain ⟨a0,a1⟩:=ha
  congr 1
  simp
  omega
end Go.Proofs.YtgjjfnjnjnbfgaaDoor.Q
namespace Go.Proofs.YtgjjfnjnjnbfgaaDoor.Q
def rungsN : List Nat:=[13043817825332782212,15511800964685064948,16915738899553466670,17664662643191237676,18051468387014017850,18248035989933441396,18347121020861646923,18396865112328554660,18421787711448657617,18434261669329232139,18440501815349552981,18443622680442407997,18445183311048607331,18445963675871538003,18446353870663572144,18446548971154807801,18446646522174239824,18446695297877410578,18446719685777359790,18446731879739425373,18446737976723480911,18446741025216264367,18446742549462845017,18446743311586182573,18446743692647863158,18446743883178706403,18446743978444128763,18446744026076840128,18446744049893195856,18446744061801373732,18446744067755462673,18446744070732507144]
/-- The rung of bit d of the exponent's 32 bits behind the point. -/
def rung (d : Nat) : Nat:=rungsN.getD (31 - d) 0
abbrev BB : Nat:=18446744073709551616
def bit (e d : Nat) : Nat:=e / 2 ^ d % 2
/-- What the lowest d bits of e leave of t. -/
def hgo : Nat → Nat → Nat → Nat
  | 0,_,t => t
  | d + 1,e,t => if bit e d = 0 then hgo d e t else hgo d e (t * rung d / BB)
/-- A bit's factor,by BB. -/
def fac (e d : Nat) : Nat:=if bit e d = 0 then BB else rung d
theorem rung_le : ∀ d : Fin 32,rung d.val < BB ∧ 13043817825332782212 ≤ rung d.val:=by decide +kernel
theorem rung_lt {d : Nat} (h : d < 32) : rung d < BB:=(rung_le ⟨d,h⟩).1
theorem hgo_le {e : Nat} : ∀ {d : Nat} {t : Nat},d ≤ 32 → hgo d e t ≤ t
  | 0,_,_ => Nat.le_refl _
  | d + 1,t,h => by
    rw [hgo]
    split
    · exact hgo_le (by omega)
    · refine Nat.le_trans (hgo_le (by omega)) ?_
      apply Nat.div_le_of_le_mul
      rw [Nat.mul_comm BB]
      exact Nat.mul_le_mul_left _ (Nat.le_of_lt (rung_lt (by omega)))
theorem bit_lt (e d : Nat) : bit e d < 2:=Nat.mod_lt _ (by decide)
end Go.Proofs.YtgjjfnjnjnbfgaaDoor.Q
namespace Go.Proofs.YtgjjfnjnjnbfgaaDoor.Q
def gg (e : Nat) : Nat:=hgo 32 e 9223372036854775808
def HH (e : Nat) : Nat:=if e / 4294967296 ≥ 63 then 0 else gg e / 2 ^ (e / 4294967296)
theorem gg_le (e : Nat) : gg e ≤ 9223372036854775808:=hgo_le (by decide)
theorem HH_le (e : Nat) : HH e ≤ 9223372036854775808:=by
  unfold HH
  split
  · omega
  · exact Nat.le_trans (Nat.div_le_self _ _) (gg_le e)
end Go.Proofs.YtgjjfnjnjnbfgaaDoor.Q
namespace Go.Proofs.YtgjjfnjnjnbfgaaDoor.Q
open Go.RowKit Go.Proofs.YtgjjfnjnjnbfgaaDoor.GLG Go.Proofs.YtgjjfnjnjnbfgaaDoorW.PrintWords Go.Proofs.YtgjjfnjnjnbfgaaDoorW.PrintLast Go.Proofs.YtgjjfnjnjnbfgaaDoorW.PrintMore
theorem and_bit (E d : Nat) (hE : E < 18446744073709551616) (hd : d < 64) : Go.bits .and .u64 (E : Int) (IntKind.u64.wrap (2 ^ d)) = 0 ↔ bit E d = 0:=by
  have p:=pow_bd d (by omega)
  have p0:=pow_pos_ d
  have hlt : (2 : Nat) ^ d < 2 ^ 64:=Nat.pow_lt_pow_right (by decide) hd
  have e2 : (2 : Int) ^ d = ((2 ^ d : Nat) : Int):=by simp
  have hw : IntKind.u64.wrap (2 ^ d) = ((2 ^ d : Nat) : Int):=by
    rw [e2,wraps_u64 _ (by omega) (by exact_mod_cast hlt)]
  rw [hw,(bits_nat .u64 64 (by decide) wraps_u64 E (2 ^ d) (by omega) hlt).1]
  have hb : bit E d = 0 ↔ E.testBit d = false:=by
    rw [Nat.testBit_eq_decide_div_mod_eq]
    unfold bit
    have:=Nat.mod_lt (E / 2 ^ d) (show 0 < 2 by decide)
    simp
  rw [hb]
  constructor
  · intro h
    have h0 : E &&& 2 ^ d = 0:=by exact_mod_cast h
    have h1:=congrArg (fun x => x.testBit d) h0
    simpa [Nat.testBit_and,Nat.testBit_two_pow_self] using h1
  · intro h
    have h0 : E &&& 2 ^ d = 0:=by
      apply Nat.eq_of_testBit_eq
      intro i
      rw [Nat.testBit_and,Nat.testBit_two_pow,Nat.zero_testBit]
      by_cases c : d = i
      · subst c
        simp [h]
      · simp [c]
    rw [h0];rfl
theorem rd_rung {d : Nat} (h : d < 32) : rd rungsL ((31 - d : Nat) : Int) = ((rung d : Nat) : Int):=by
  have : ∀ d : Fin 32,rd rungsL ((31 - d.val : Nat) : Int) = ((rung d.val : Nat) : Int):=by decide +kernel
  exact this ⟨d,h⟩
theorem go_half : ∀ {d : Nat} {E T : Nat},d ≤ 32 → E < 18446744073709551616 → T ≤ 9223372036854775808 → ladder_Half.go d (E : Int) (T : Int) = some ((hgo d E T : Nat) : Int)
  | 0,_,_,_,_,_ => rfl
  | d + 1,E,T,h,hE,hT => by
    simp only [ladder_Half.go]
    rw [hgo]
    have hr : rung d < 18446744073709551616:=rung_lt (d:=d) (by omega)
    by_cases c : bit E d = 0
    · rw [if_pos ((and_bit E d hE (by omega)).2 c),if_pos c]
      exact go_half (by omega) hE hT
    · rw [if_neg (fun h => c ((and_bit E d hE (by omega)).1 h)),if_neg c,rd_rung (by omega)]
      rw [wmul ⟨by omega,by omega⟩ ⟨by omega,by omega⟩]
      simp only [Option.bind_some]
      have e : (T : Int) * ((rung d : Nat) : Int) / 18446744073709551616 = ((T * rung d / BB : Nat) : Int):=by simp
      rw [e]
      refine go_half (by omega) hE ?_
      apply Nat.div_le_of_le_mul
      rw [Nat.mul_comm BB]
      exact Nat.le_trans (Nat.mul_le_mul_left _ (Nat.le_of_lt hr)) (Nat.mul_le_mul_right _ hT)
theorem half (E : Nat) (hE : E < 18446744073709551616) : ladder_Half.f (E : Int) = some ((HH E : Nat) : Int):=by
  unfold ladder_Half.f HH
  by_cases c : E / 4294967296 ≥ 63
  · rw [if_pos (by omega),if_pos c];rfl
  · rw [if_neg (by omega),if_neg c,if_pos (by omega)]
    have:=go_half (d:=32) (E:=E) (T:=9223372036854775808) (by omega) hE (by omega)
    rw [show ((9223372036854775808 : Nat) : Int) = 9223372036854775808 from rfl] at this
    rw [this]
    simp only [Option.bind_some]
    have e : ((E : Int) / 4294967296).toNat = E / 4294967296:=by omega
    rw [e]
    unfold gg
    simp
theorem half_i {e : Int} (h : U e) : ladder_Half.f e = some ((HH e.toNat : Nat) : Int):=by
  obtain ⟨h0,h1⟩:=h
  obtain ⟨E,rfl⟩:=Int.eq_ofNat_of_zero_le h0
  rw [Int.toNat_natCast]
  exact half E (by omega)
end Go.Proofs.YtgjjfnjnjnbfgaaDoor.Q
namespace Go.Proofs.YtgjjfnjnjnbfgaaDoor.Q
open Go.RowKit Go.Proofs.YtgjjfnjnjnbfgaaDoor.GLG Go.Proofs.YtgjjfnjnjnbfgaaDoorW.PrintWords Go.Proofs.YtgjjfnjnjnbfgaaDoorW.PrintLast Go.Proofs.YtgjjfnjnjnbfgaaDoorW.PrintMore
/-- How many halvings a period brings. -/
def expV (p h : Int) : Int:=p * 4294967296 / h
theorem exp_bd {p h : Int} (p0 : 1 ≤ p) (p1 : p ≤ 1048576) (h0 : 1 ≤ h) : 0 ≤ expV p h ∧ expV p h ≤ 4503599627370496:=by
  unfold expV
  have:=Int.ediv_le_self (a:=p * 4294967296) h (by omega)
  have:=Int.ediv_nonneg (a:=p * 4294967296) (b:=h) (by omega) (by omega)
  omega
theorem exp_w {p h : Int} (p0 : 1 ≤ p) (p1 : p ≤ 1048576) (h0 : 1 ≤ h) (h1 : h ≤ 1073741824) : IntKind.u64.wrap (Int.tdiv (IntKind.u64.wrap ((IntKind.u64.wrap p) * 4294967296)) (IntKind.u64.wrap h)) = expV p h:=by
  have:=exp_bd p0 p1 h0
  rw [w64_in (x:=p) (by omega) (by omega),w64_in (x:=h) (by omega) (by omega),w64_in (x:=p * 4294967296) (by omega) (by omega),tdiv_eq (by omega)]
  unfold expV at this ⊢
  rw [w64_in (by omega) (by omega)]
/-- What a period leaves. -/
def factV (p h : Int) : Int × Int:=if p < 1 ∨ p > 1048576 ∨ h < 1 ∨ h > 1073741824 then (0,100) else (((HH (expV p h).toNat : Nat) : Int),0)
theorem factor (p h : Int) : decay_Factor.f p h = some (factV p h):=by
  unfold decay_Factor.f factV
  by_cases c1 : p < 1
  · rw [if_pos c1,if_pos (by omega)]
  · by_cases c2 : p > 1048576
    · rw [if_neg c1,if_pos c2,if_pos (by omega)]
    · by_cases c3 : h < 1
      · rw [if_neg c1,if_neg c2,if_pos c3,if_pos (by omega)]
      · by_cases c4 : h > 1073741824
        · rw [if_neg c1,if_neg c2,if_neg c3,if_pos c4,if_pos (by omega)]
        · rw [if_neg c1,if_neg c2,if_neg c3,if_neg c4,if_neg (c:=_ ∨ _) (by omega),if_neg (by rw [w64_in (by omega) (by omega)];omega),exp_w (by omega) (by omega) (by omega) (by omega)]
          have:=exp_bd (p:=p) (h:=h) (by omega) (by omega) (by omega)
          rw [half_i ⟨by omega,by omega⟩]
          rfl
theorem capU {v : Int} (h : 0 ≤ v) : U (capV v).1:=by
  unfold capV
  split
  · exact ⟨h,by assumption⟩
  · exact ⟨by decide,by decide⟩
/-- A usage and so many node-ticks more. -/
def chargeV (u n : Int) : Int:=if n < 0 then u else (capV (u + (capV (n * 4294967296)).1)).1
theorem charge {u n : Int} (hu : U u) (hn : n ≤ 9223372036854775807) : decay_Charge.f u n = some (chargeV u n):=by
  unfold decay_Charge.f chargeV
  by_cases c : n < 0
  · rw [if_pos c,if_pos c]
  · rw [if_neg c,if_neg c,fq_Of hn]
    unfold ofV
    rw [if_neg c]
    simp only [Option.bind_some]
    rw [fq_add hu (capU (by omega))]
    rfl
theorem fade {u f : Int} (hu : U u) (hf : U f) : decay_Fade.f u f = some (partV u f):=by
  unfold decay_Fade.f
  rw [fq_part hu hf];rfl
theorem partU {u f : Int} (hu : U u) (hf : U f) : U (partV u f):=by
  have:=part_le hu hf
  obtain ⟨a,b⟩:=hu
  exact ⟨by omega,by omega⟩
end Go.Proofs.YtgjjfnjnjnbfgaaDoor.Q
namespace Go.Proofs.YtgjjfnjnjnbfgaaDoor.Q
open Go.RowKit Go.Proofs.YtgjjfnjnjnbfgaaDoorW.PrintWords Go.Proofs.YtgjjfnjnjnbfgaaDoorW.PrintLast Go.Proofs.YtgjjfnjnjnbfgaaDoorW.PrintMore
/-- A config within its ranges. -/
structure Cfg (N Q L A F S P H : Int) : Prop where
  n0 : 1 ≤ N
  n1 : N ≤ 256
  q0 : 1 ≤ Q
  q1 : Q ≤ 128
  l0 : 1 ≤ L
  l1 : L ≤ 1048576
  a0 : 1 ≤ A
  a1 : A ≤ 1048576
  f0 : 0 ≤ F
  f1 : F ≤ 1048576
  s0 : 0 ≤ S
  s1 : S ≤ 1048576
  p0 : 1 ≤ P
  p1 : P ≤ 1048576
  h0 : 1 ≤ H
  h1 : H ≤ 1073741824
def within (x lo hi : Int) : Bool:=decide (lo ≤ x ∧ x ≤ hi)
def inR (N Q L A F S P H : Int) : Bool:=within N 1 256 && within Q 1 128 && within L 1 1048576 && within A 1 1048576 && within F 0 1048576 && within S 0 1048576 && within P 1 1048576 && within H 1 1073741824
theorem inR_cfg {N Q L A F S P H : Int} (h : inR N Q L A F S P H = true) : Cfg N Q L A F S P H:=by
  unfold inR within at h
  simp only [Bool.and_eq_true,decide_eq_true_eq] at h
  obtain ⟨⟨⟨⟨⟨⟨⟨⟨a,b⟩,c,d⟩,e,f⟩,g,i⟩,j,k⟩,l,m⟩,n,o⟩,p,q⟩:=h
  exact ⟨a,b,c,d,e,f,g,i,j,k,l,m,n,o,p,q⟩
theorem prod_bd {x y a b : Int} (x0 : 0 ≤ x) (xa : x ≤ a) (y0 : 0 ≤ y) (yb : y ≤ b) : 0 ≤ x * y ∧ x * y ≤ a * b:=
  ⟨Int.mul_nonneg x0 y0,Int.le_trans (Int.mul_le_mul_of_nonneg_right xa y0) (Int.mul_le_mul_of_nonneg_left yb (by omega))⟩
/-- The exponent,and for how many periods a usage stands. -/
def eV (P H : Int) : Int:=P * 4294967296 / H
def keepV (P H : Int) : Int:=if (8589934592 + eV P H - 1) / eV P H < 2 then 2 else (8589934592 + eV P H - 1) / eV P H
theorem eV_bd {P H : Int} (p0 : 1 ≤ P) (p1 : P ≤ 1048576) (h0 : 1 ≤ H) (h1 : H ≤ 1073741824) : 4 ≤ eV P H ∧ eV P H ≤ 4503599627370496:=by
  unfold eV
  have:=Int.ediv_le_self (a:=P * 4294967296) H (by omega)
  refine ⟨?_,by omega⟩
  rw [Int.le_ediv_iff_mul_le (by omega)]
  omega
theorem up_bd {E : Int} (h : 4 ≤ E) : 0 ≤ (8589934592 + E - 1) / E ∧ (8589934592 + E - 1) / E ≤ 2147483649:=by
  refine ⟨Int.ediv_nonneg (by omega) (by omega),?_⟩
  have h2 : (8589934592 + E - 1) / E < 2147483650:=by
    rw [Int.ediv_lt_iff_lt_mul (by omega)]
    omega
  omega
theorem keep_bd {P H : Int} (p0 : 1 ≤ P) (p1 : P ≤ 1048576) (h0 : 1 ≤ H) (h1 : H ≤ 1073741824) : 2 ≤ keepV P H ∧ keepV P H ≤ 2147483649:=by
  have:=up_bd (eV_bd p0 p1 h0 h1).1
  unfold keepV
  split <;> omega
/-- Nodes by ticks;the greatest usage;the greatest priority that is not age. -/
def mostV (N P H : Int) : Int:=N * P * keepV P H
def fsV (N F S : Int) : Int:=F + S * N
theorem area_bd {N P : Int} (n0 : 1 ≤ N) (n1 : N ≤ 256) (p0 : 1 ≤ P) (p1 : P ≤ 1048576) : 1 ≤ N * P ∧ N * P ≤ 268435456:=by
  have h:=prod_bd (x:=N) (y:=P) (a:=256) (b:=1048576) (by omega) n1 (by omega) p1
  have h2 : 1 * P ≤ N * P:=Int.mul_le_mul_of_nonneg_right n0 (by omega)
  omega
theorem most_bd {N P H : Int} (n0 : 1 ≤ N) (n1 : N ≤ 256) (p0 : 1 ≤ P) (p1 : P ≤ 1048576) (h0 : 1 ≤ H) (h1 : H ≤ 1073741824) : keepV P H ≤ mostV N P H ∧ 2 * (N * P) ≤ mostV N P H ∧ mostV N P H ≤ 576460752571858944:=by
  have a:=area_bd n0 n1 p0 p1
  have k:=keep_bd p0 p1 h0 h1
  unfold mostV
  have h:=prod_bd (x:=N * P) (y:=keepV P H) (a:=268435456) (b:=2147483649) (by omega) a.2 (by omega) k.2
  have h2 : 1 * keepV P H ≤ N * P * keepV P H:=Int.mul_le_mul_of_nonneg_right a.1 (by omega)
  have h3 : N * P * 2 ≤ N * P * keepV P H:=Int.mul_le_mul_of_nonneg_left k.1 (by omega)
  omega
theorem sn_bd {N S : Int} (n0 : 1 ≤ N) (n1 : N ≤ 256) (s0 : 0 ≤ S) (s1 : S ≤ 1048576) : 0 ≤ S * N ∧ S * N ≤ 268435456:=by
  have h:=prod_bd (x:=S) (y:=N) (a:=1048576) (b:=256) s0 s1 (by omega) n1
  omega
def leadV (N A F S : Int) : Int:=fsV N F S / A
def boundV (N Q L A F S : Int) : Int:=leadV N A F S + 1 + Q * L
theorem lead_bd {N A F S : Int} (a0 : 1 ≤ A) (h0 : 0 ≤ fsV N F S) (h1 : fsV N F S ≤ 269484032) : 0 ≤ leadV N A F S ∧ leadV N A F S ≤ 269484032:=by
  unfold leadV
  refine ⟨Int.ediv_nonneg h0 (by omega),?_⟩
  have:=Int.ediv_le_self (a:=fsV N F S) A h0
  omega
/-- The two numbers of Off,where Fair is not 0. -/
def gV (N P H : Int) : Int:=keepV P H * (1 + (mostV N P H * 81 + 2147483648 - 1) / 2147483648)
def xV (N P H : Int) : Int:=258048 * gV N P H + 2 * (N * P)
def denV (N P : Int) : Int:=N * P * 4294967296
def numV (N F P H : Int) : Int:=F * xV N P H + denV N P
theorem g_bd {N P H : Int} (k0 : 2 ≤ keepV P H) (k1 : keepV P H ≤ mostV N P H) (m : mostV N P H ≤ 2147483648) : 0 ≤ gV N P H ∧ gV N P H ≤ 178241142784:=by
  unfold gV
  have h:=prod_bd (x:=keepV P H) (y:=1 + (mostV N P H * 81 + 2147483648 - 1) / 2147483648) (a:=2147483648) (b:=83) (by omega) (by omega) (by omega) (by omega)
  omega
theorem x_bd {N P H : Int} (a0 : 1 ≤ N * P) (a1 : N * P ≤ 268435456) (g0 : 0 ≤ gV N P H) (g1 : gV N P H ≤ 178241142784) : 0 ≤ xV N P H ∧ xV N P H ≤ 46000000000000000:=by
  unfold xV
  omega
theorem num_bd {N F P H : Int} (f0 : 0 ≤ F) (f1 : F ≤ 1048576) (a0 : 1 ≤ N * P) (a1 : N * P ≤ 268435456) (x0 : 0 ≤ xV N P H) (x1 : xV N P H ≤ 46000000000000000) : 0 ≤ F * xV N P H ∧ F * xV N P H ≤ 48234496000000000000000 ∧ 4294967296 ≤ numV N F P H ∧ numV N F P H ≤ 48235648921504606846976:=by
  have h:=prod_bd (x:=F) (y:=xV N P H) (a:=1048576) (b:=46000000000000000) f0 f1 x0 x1
  unfold numV denV
  omega
end Go.Proofs.YtgjjfnjnjnbfgaaDoor.Q
namespace Go.Proofs.YtgjjfnjnjnbfgaaDoor.Q
open Go.RowKit Go.Proofs.YtgjjfnjnjnbfgaaDoor.GLG Go.Proofs.YtgjjfnjnjnbfgaaDoorW.PrintWords Go.Proofs.YtgjjfnjnjnbfgaaDoorW.PrintLast Go.Proofs.YtgjjfnjnjnbfgaaDoorW.PrintMore
theorem umod' (x : Int) : U (x % 18446744073709551616):=⟨by omega,by omega⟩
/-- A product of three words. -/
def timesV (h l y : Int) : Int × Int × Bool:=if h * y / 18446744073709551616 > 0 then (18446744073709551615,18446744073709551615,false) else addV (l * y) (V (h * y % 18446744073709551616) 0)
theorem wtimes {h l y : Int} (hh : U h) (hl : U l) (hy : U y) : wide_Times.f h l y = some (timesV h l y):=by
  unfold wide_Times.f timesV
  rw [wmul hl hy,wmul hh hy]
  simp only [Option.bind_some]
  have m1:=mul_bd hl hy
  by_cases c : h * y / 18446744073709551616 > 0
  · rw [if_pos c,if_pos c];rfl
  · rw [if_neg c,if_neg c,wadd ⟨by omega,by omega⟩ (umod' _) (umod' _) ⟨by omega,by omega⟩]
    simp only [Option.bind_some]
    rw [show V (l * y / 18446744073709551616) (l * y % 18446744073709551616) = l * y by unfold V;omega]
theorem times_fits {q y : Int} (hq : 0 ≤ q) (hy : 0 ≤ y) (hb : q * y < 340282366920938463463374607431768211456) : timesV (q / 18446744073709551616) (q % 18446744073709551616) y = (q * y / 18446744073709551616,q * y % 18446744073709551616,true):=by
  unfold timesV
  have e : q * y = q / 18446744073709551616 * y * 18446744073709551616 + q % 18446744073709551616 * y:=by
    have : q = q / 18446744073709551616 * 18446744073709551616 + q % 18446744073709551616:=by omega
    generalize q / 18446744073709551616 = a at *
    generalize q % 18446744073709551616 = b at *
    subst this
    grind
  have n1 : 0 ≤ q / 18446744073709551616 * y:=Int.mul_nonneg (by omega) hy
  have n2 : 0 ≤ q % 18446744073709551616 * y:=Int.mul_nonneg (by omega) hy
  generalize q / 18446744073709551616 * y = A at *
  generalize q % 18446744073709551616 * y = B at *
  rw [if_neg (by omega)]
  have hs : B + V (A % 18446744073709551616) 0 = q * y:=by unfold V;omega
  unfold addV
  rw [hs,if_pos hb]
end Go.Proofs.YtgjjfnjnjnbfgaaDoor.Q
namespace Go.Proofs.YtgjjfnjnjnbfgaaDoor.Q
open Go.RowKit Go.Proofs.YtgjjfnjnjnbfgaaDoor.GLG Go.Proofs.YtgjjfnjnjnbfgaaDoorW.PrintWords Go.Proofs.YtgjjfnjnjnbfgaaDoorW.PrintLast Go.Proofs.YtgjjfnjnjnbfgaaDoorW.PrintMore
theorem compare_ (a b : Int) : cmp_Compare_uint64.f a b = some (if a < b then -1 else if a > b then 1 else 0):=by
  unfold cmp_Compare_uint64.f cmp_isNaN_uint64.f
  simp only [bne_self_eq_false,Option.bind_some,Bool.false_eq_true,if_false]
  split
  · rfl
  · split <;> rfl
theorem wcmp {ah al bh bl : Int} (h2 : U al) (h4 : U bl) : wide_Cmp.f ah al bh bl = some (cmpV (V ah al) (V bh bl)):=by
  unfold wide_Cmp.f cmpV V
  rw [compare_,compare_]
  simp only [Option.bind_some]
  obtain ⟨h2a,h2b⟩:=h2;obtain ⟨h4a,h4b⟩:=h4
  by_cases e : ah = bh
  · rw [if_pos e]
    congr 1
    by_cases c : al < bl
    · rw [if_pos c,if_pos (show ah * 18446744073709551616 + al < bh * 18446744073709551616 + bl by omega)]
    · rw [if_neg c,if_neg (show ¬ ah * 18446744073709551616 + al < bh * 18446744073709551616 + bl by omega)]
      by_cases d : al > bl
      · rw [if_pos d,if_neg (show ¬ ah * 18446744073709551616 + al = bh * 18446744073709551616 + bl by omega)]
      · rw [if_neg d,if_pos (show ah * 18446744073709551616 + al = bh * 18446744073709551616 + bl by omega)]
  · rw [if_neg e]
    congr 1
    by_cases c : ah < bh
    · rw [if_pos c,if_pos (show ah * 18446744073709551616 + al < bh * 18446744073709551616 + bl by omega)]
    · rw [if_neg c,if_neg (show ¬ ah * 18446744073709551616 + al < bh * 18446744073709551616 + bl by omega),if_pos (show ah > bh by omega),if_neg (show ¬ ah * 18446744073709551616 + al = bh * 18446744073709551616 + bl by omega)]
end Go.Proofs.YtgjjfnjnjnbfgaaDoor.Q
namespace Go.Proofs.YtgjjfnjnjnbfgaaDoor.Q
open Go.RowKit Go.Proofs.YtgjjfnjnjnbfgaaDoorW.PrintWords Go.Proofs.YtgjjfnjnjnbfgaaDoorW.PrintLast Go.Proofs.YtgjjfnjnjnbfgaaDoorW.PrintMore
/-- All that is needed of a config within its ranges. -/
structure Bds (N Q L A F S P H : Int) : Prop extends Cfg N Q L A F S P H where
  e0 : 4 ≤ eV P H
  e1 : eV P H ≤ 4503599627370496
  k0 : 2 ≤ keepV P H
  k1 : keepV P H ≤ 2147483649
  c0 : 1 ≤ N * P
  c1 : N * P ≤ 268435456
  m0 : keepV P H ≤ mostV N P H
  m2 : 2 * (N * P) ≤ mostV N P H
  m1 : mostV N P H ≤ 576460752571858944
  sn0 : 0 ≤ S * N
  sn1 : S * N ≤ 268435456
  fs0 : 0 ≤ fsV N F S
  fs1 : fsV N F S ≤ 269484032
  ld0 : 0 ≤ leadV N A F S
  ld1 : leadV N A F S ≤ 269484032
  ql0 : 0 ≤ Q * L
  ql1 : Q * L ≤ 134217728
  b0 : 1 ≤ boundV N Q L A F S
  b1 : boundV N Q L A F S ≤ 403701761
  ab0 : 0 ≤ A * boundV N Q L A F S
  ab1 : A * boundV N Q L A F S ≤ 423311977742336
theorem bds {N Q L A F S P H : Int} (C : Cfg N Q L A F S P H) : Bds N Q L A F S P H:=by
  obtain ⟨n0,n1,q0,q1,l0,l1,a0,a1,f0,f1,s0,s1,p0,p1,h0,h1⟩:=C
  obtain ⟨e0,e1⟩:=eV_bd p0 p1 h0 h1
  obtain ⟨k0,k1⟩:=keep_bd p0 p1 h0 h1
  obtain ⟨c0,c1⟩:=area_bd n0 n1 p0 p1
  obtain ⟨m0,m2,m1⟩:=most_bd n0 n1 p0 p1 h0 h1
  obtain ⟨sn0,sn1⟩:=sn_bd n0 n1 s0 s1
  have fs0 : 0 ≤ fsV N F S:=by unfold fsV;omega
  have fs1 : fsV N F S ≤ 269484032:=by unfold fsV;omega
  obtain ⟨ld0,ld1⟩:=lead_bd (A:=A) a0 fs0 fs1
  have hq:=prod_bd (x:=Q) (y:=L) (a:=128) (b:=1048576) (by omega) q1 (by omega) l1
  have b0 : 1 ≤ boundV N Q L A F S:=by unfold boundV;omega
  have b1 : boundV N Q L A F S ≤ 403701761:=by unfold boundV;omega
  have hab:=prod_bd (x:=A) (y:=boundV N Q L A F S) (a:=1048576) (b:=403701761) (by omega) a1 (by omega) b1
  exact ⟨⟨n0,n1,q0,q1,l0,l1,a0,a1,f0,f1,s0,s1,p0,p1,h0,h1⟩,e0,e1,k0,k1,c0,c1,m0,m2,m1,sn0,sn1,fs0,fs1,ld0,ld1,hq.1,by omega,b0,b1,hab.1,by omega⟩
/-- The two numbers of Off,as words. -/
def bndV (N F P H : Int) : Int × Int × Int × Int:=if F = 0 then (0,0,0,1) else (numV N F P H / 18446744073709551616,numV N F P H % 18446744073709551616,denV N P / 18446744073709551616,denV N P % 18446744073709551616)
def offV (N Q L A F S P H : Int) : Int:=if cmpV (V (timesV (bndV N F P H).1 (bndV N F P H).2.1 1000).1 (timesV (bndV N F P H).1 (bndV N F P H).2.1 1000).2.1) (V (timesV (bndV N F P H).2.2.1 (bndV N F P H).2.2.2 (A * boundV N Q L A F S + fsV N F S)).1 (timesV (bndV N F P H).2.2.1 (bndV N F P H).2.2.2 (A * boundV N Q L A F S + fsV N F S)).2.1) > 0 then 113 else 0
def checkV (N Q L A F S P H : Int) : Int:=if inR N Q L A F S P H = true then (if mostV N P H > 2147483648 then 111 else if A * 1099511627776 + fsV N F S ≥ 4611686018427387904 then 112 else offV N Q L A F S P H) else 110
theorem num_of {N Q L A F S P H : Int} (B : Bds N Q L A F S P H) (hm : mostV N P H ≤ 2147483648) : 0 ≤ gV N P H ∧ gV N P H ≤ 178241142784 ∧ 0 ≤ xV N P H ∧ xV N P H ≤ 46000000000000000 ∧ 0 ≤ F * xV N P H ∧ F * xV N P H ≤ 48234496000000000000000 ∧ 4294967296 ≤ numV N F P H ∧ numV N F P H ≤ 48235648921504606846976:=by
  obtain ⟨g0,g1⟩:=g_bd B.k0 B.m0 hm
  obtain ⟨x0,x1⟩:=x_bd B.c0 B.c1 g0 g1
  obtain ⟨f0,f1,n0,n1⟩:=num_bd (H:=H) B.f0 B.f1 B.c0 B.c1 x0 x1
  exact ⟨g0,g1,x0,x1,f0,f1,n0,n1⟩
theorem bnd_U {N Q L A F S P H : Int} (B : Bds N Q L A F S P H) (hm : mostV N P H ≤ 2147483648) : U (bndV N F P H).1 ∧ U (bndV N F P H).2.1 ∧ U (bndV N F P H).2.2.1 ∧ U (bndV N F P H).2.2.2:=by
  obtain ⟨_,_,_,_,_,_,n0,n1⟩:=num_of B hm
  have c0:=B.c0
  have c1:=B.c1
  unfold bndV denV
  split
  · exact ⟨⟨by decide,by decide⟩,⟨by decide,by decide⟩,⟨by decide,by decide⟩,⟨by decide,by decide⟩⟩
  · refine ⟨⟨?_,?_⟩,⟨?_,?_⟩,⟨?_,?_⟩,⟨?_,?_⟩⟩ <;> dsimp only <;> omega
theorem times_U {h l y : Int} : U (timesV h l y).2.1:=by
  unfold timesV addV
  split
  · exact ⟨by decide,by decide⟩
  · split
    · exact umod' _
    · exact ⟨by decide,by decide⟩
end Go.Proofs.YtgjjfnjnjnbfgaaDoor.Q
namespace Go.Proofs.YtgjjfnjnjnbfgaaDoor.Q
open Go.RowKit Go.Proofs.YtgjjfnjnjnbfgaaDoor.GLG Go.Proofs.YtgjjfnjnjnbfgaaDoorW.PrintWords Go.Proofs.YtgjjfnjnjnbfgaaDoorW.PrintLast Go.Proofs.YtgjjfnjnjnbfgaaDoorW.PrintMore
theorem p_in (x lo hi : Int) : config_inside.f x lo hi = some (within x lo hi):=by
  unfold config_inside.f within
  by_cases c : x ≥ lo
  · rw [if_pos c];congr 1;by_cases d : x ≤ hi <;> simp [c,d]
  · rw [if_neg c];congr 1;simp;omega
theorem p_ranges (k : Nat) (hk : 3 ≤ k) (N Q L A F S P H : Int) : config_asked_ranges.f k N Q L A F S P H = some (if inR N Q L A F S P H = true then 0 else 110):=by
  obtain ⟨k,rfl⟩ : ∃ m,k = m + 2:=⟨k - 2,by omega⟩
  unfold config_asked_ranges.f inR
  simp only [config_asked_ranges.j0,config_asked_ranges.j1,p_in,Option.bind_some]
  generalize within N 1 256 = b0
  generalize within Q 1 128 = b1
  generalize within L 1 1048576 = b2
  generalize within A 1 1048576 = b3
  generalize within F 0 1048576 = b4
  generalize within S 0 1048576 = b5
  generalize within P 1 1048576 = b6
  generalize within H 1 1073741824 = b7
  cases b0 <;> cases b1 <;> cases b2 <;> cases b3 <;> cases b4 <;> cases b5 <;> cases b6 <;> cases b7 <;> rfl
section
variable {N Q L A F S P H : Int} (B : Bds N Q L A F S P H)
include B
theorem p_area : config_asked_area.f N Q L A F S P H = some (N * P):=by
  unfold config_asked_area.f
  rw [wrap64_in (by have:=B.c0;omega) (by have:=B.c1;omega)]
theorem p_keeps : config_asked_keeps.f N Q L A F S P H = some (keepV P H):=by
  obtain ⟨u0,u1⟩:=up_bd B.e0
  have e0:=B.e0;have e1:=B.e1;have p0:=B.p0;have p1:=B.p1;have h0:=B.h0
  unfold config_asked_keeps.f config_up.f mx
  rw [if_neg (by omega),wrap64_in (x:=P * 4294967296) (by omega) (by omega),tdiv_eq (by omega),show P * 4294967296 / H = eV P H from rfl,wrap64_in (x:=eV P H) (by omega) (by omega),if_neg (by omega)]
  rw [wrap64_in (x:=8589934592 + eV P H) (by omega) (by omega),wrap64_in (x:=8589934592 + eV P H - 1) (by omega) (by omega),tdiv_eq (by omega),wrap64_in (x:=(8589934592 + eV P H - 1) / eV P H) (by omega) (by omega)]
  simp only [Option.bind_some]
  unfold keepV
  congr 1
  split <;> split <;> omega
theorem p_most : config_asked_most.f N Q L A F S P H = some (mostV N P H):=by
  unfold config_asked_most.f
  rw [p_area B,p_keeps B]
  simp only [Option.bind_some]
  have m0:=B.m0;have m1:=B.m1;have k0:=B.k0
  rw [show N * P * keepV P H = mostV N P H from rfl,wrap64_in (by omega) (by omega)]
theorem p_fs : config_asked_fairSize.f N Q L A F S P H = some (fsV N F S):=by
  have a:=B.sn0;have b:=B.sn1;have f0:=B.f0;have f1:=B.f1
  unfold config_asked_fairSize.f fsV
  rw [wrap64_in (x:=S * N) (by omega) (by omega),wrap64_in (by omega) (by omega)]
theorem p_lead : config_asked_lead.f N Q L A F S P H = some (leadV N A F S):=by
  have a:=B.ld0;have b:=B.ld1;have c:=B.fs0;have d:=B.a0
  unfold config_asked_lead.f
  rw [p_fs B]
  simp only [Option.bind_some]
  rw [if_neg (by omega),tdiv_eq c,show fsV N F S / A = leadV N A F S from rfl,wrap64_in (by omega) (by omega)]
theorem p_bound : config_asked_bound.f N Q L A F S P H = some (boundV N Q L A F S):=by
  have a:=B.ld0;have b:=B.ld1;have c:=B.ql0;have d:=B.ql1
  unfold config_asked_bound.f boundV
  rw [p_lead B]
  simp only [Option.bind_some]
  rw [wrap64_in (x:=leadV N A F S + 1) (by omega) (by omega),wrap64_in (x:=Q * L) (by omega) (by omega),wrap64_in (by omega) (by omega)]
theorem p_usage : config_asked_usage.f N Q L A F S P H = some (if mostV N P H > 2147483648 then 111 else 0):=by
  unfold config_asked_usage.f
  rw [p_most B]
  simp only [Option.bind_some]
  split <;> rfl
theorem p_scale : config_asked_scale.f N Q L A F S P H = some (if A * 1099511627776 + fsV N F S ≥ 4611686018427387904 then 112 else 0):=by
  have a:=B.fs0;have b:=B.fs1;have c:=B.a0;have d:=B.a1
  unfold config_asked_scale.f
  rw [p_fs B]
  simp only [Option.bind_some]
  rw [wrap64_in (x:=A * 1099511627776) (by omega) (by omega),wrap64_in (by omega) (by omega)]
  split <;> rfl
theorem p_bounds (hm : mostV N P H ≤ 2147483648) : config_asked_bounds.f N Q L A F S P H = some (bndV N F P H):=by
  obtain ⟨g0,g1,x0,x1,fx0,fx1,n0,n1⟩:=num_of B hm
  have c0:=B.c0;have c1:=B.c1;have f0:=B.f0;have f1:=B.f1;have m0:=B.m0;have k0:=B.k0
  unfold config_asked_bounds.f bndV wide_Of.f
  by_cases c : F = 0
  · rw [if_pos c,if_pos c];rfl
  · rw [if_neg c,if_neg c,p_keeps B,p_most B,p_area B]
    simp only [Option.bind_some]
    unfold config_up.f
    have hd : 0 ≤ (mostV N P H * 81 + 2147483648 - 1) / 2147483648:=Int.ediv_nonneg (by omega) (by omega)
    rw [if_neg (by decide),wrap64_in (x:=mostV N P H * 81) (by omega) (by omega),wrap64_in (x:=mostV N P H * 81 + 2147483648) (by omega) (by omega),wrap64_in (x:=mostV N P H * 81 + 2147483648 - 1) (by omega) (by omega),tdiv_eq (by omega),wrap64_in (x:=(mostV N P H * 81 + 2147483648 - 1) / 2147483648) (by omega) (by omega)]
    simp only [Option.bind_some]
    rw [wrap64_in (x:=1 + (mostV N P H * 81 + 2147483648 - 1) / 2147483648) (by omega) (by omega),show keepV P H * (1 + (mostV N P H * 81 + 2147483648 - 1) / 2147483648) = gV N P H from rfl]
    rw [wrap64_in (x:=gV N P H) (by omega) (by omega),wrap64_in (x:=258048 * gV N P H) (by omega) (by omega),wrap64_in (x:=2 * (N * P)) (by omega) (by omega),show 258048 * gV N P H + 2 * (N * P) = xV N P H from rfl,wrap64_in (x:=xV N P H) (by omega) (by omega)]
    rw [w64_in (x:=N * P) (by omega) (by omega),w64_in (x:=F) (by omega) (by omega),w64_in (x:=xV N P H) (by omega) (by omega)]
    have hs:=wshl (h:=0) (l:=N * P) ⟨by omega,by omega⟩ ⟨by omega,by omega⟩ 32 (by decide) (by decide)
    rw [show ((32 : Nat) : Int) = 32 from rfl] at hs
    have hv : shlV 0 (N * P) 32 = (denV N P / 18446744073709551616,denV N P % 18446744073709551616):=by
      unfold shlV denV
      refine Prod.ext ?_ ?_
      · simp;omega
      · simp
    rw [hs,hv]
    simp only [Option.bind_some]
    rw [wtimes ⟨by omega,by omega⟩ ⟨by omega,by omega⟩ ⟨by omega,by omega⟩]
    have ht:=times_fits (q:=F) (y:=xV N P H) f0 x0 (by omega)
    rw [show F / 18446744073709551616 = 0 by omega,show F % 18446744073709551616 = F by omega] at ht
    rw [ht]
    simp only [Option.bind_some]
    unfold denV
    rw [wadd ⟨by omega,by omega⟩ (umod' _) ⟨by omega,by omega⟩ (umod' _)]
    simp only [Option.bind_some]
    unfold addV
    have e1 : V (F * xV N P H / 18446744073709551616) (F * xV N P H % 18446744073709551616) + V (N * P * 4294967296 / 18446744073709551616) (N * P * 4294967296 % 18446744073709551616) = numV N F P H:=by
      unfold V numV denV
      omega
    rw [e1,if_pos (by omega)]
theorem p_off (hm : mostV N P H ≤ 2147483648) : config_asked_off.f N Q L A F S P H = some (offV N Q L A F S P H):=by
  have a:=B.ab0;have b:=B.ab1;have c:=B.fs0;have d:=B.fs1
  obtain ⟨u0,u1,u2,u3⟩:=bnd_U B hm
  unfold config_asked_off.f offV
  rw [p_bounds B hm,p_bound B,p_fs B]
  simp only [Option.bind_some]
  rw [wrap64_in (x:=A * boundV N Q L A F S) (by omega) (by omega),wrap64_in (x:=A * boundV N Q L A F S + fsV N F S) (by omega) (by omega),w64_in (x:=A * boundV N Q L A F S + fsV N F S) (by omega) (by omega),wtimes u0 u1 ⟨by omega,by omega⟩,wtimes u2 u3 ⟨by omega,by omega⟩]
  simp only [Option.bind_some]
  rw [wcmp times_U times_U]
  simp only [Option.bind_some]
  split <;> rfl
end
theorem p_check (k : Nat) (hk : 3 ≤ k) (N Q L A F S P H : Int) : config_Check.f k N Q L A F S P H = some (checkV N Q L A F S P H):=by
  unfold config_Check.f checkV
  rw [p_ranges k hk]
  simp only [Option.bind_some]
  by_cases c : inR N Q L A F S P H = true
  · have B:=bds (inR_cfg c)
    rw [if_pos c,if_pos c,if_pos rfl,p_usage B]
    simp only [Option.bind_some]
    by_cases d : mostV N P H > 2147483648
    · rw [if_pos d,if_pos d,if_neg (by decide)]
    · rw [if_neg d,if_neg d,if_pos rfl,p_scale B]
      simp only [Option.bind_some]
      by_cases e : A * 1099511627776 + fsV N F S ≥ 4611686018427387904
      · rw [if_pos e,if_pos e,if_neg (by decide)]
      · rw [if_neg e,if_neg e,if_pos rfl,p_off B (by omega)]
  · rw [if_neg c,if_neg c,if_neg (by decide)]
end Go.Proofs.YtgjjfnjnjnbfgaaDoor.Q
namespace Go.Proofs.YtgjjfnjnjnbfgaaDoor.L
open Go.RowKit Go.Proofs.YtgjjfnjnjnbfgaaDoorW.PrintWords Go.Proofs.YtgjjfnjnjnbfgaaDoorW.PrintLast Go.Proofs.YtgjjfnjnjnbfgaaDoor.H Go.Proofs.YtgjjfnjnjnbfgaaDoor.Q Go.Proofs.YtgjjfnjnjnbfgaaDoor.GLG
set_option linter.unusedVariables false
theorem add_calls (w : World) (a b : Int) (ha : U a) (hb : U b) : Calls Tryd.prog 38 #[.int .u64 a,.int .u64 b] w fun e w' => e = .returned (.tuple #[.int .u64 (capV (a + b)).1,.bool (capV (a + b)).2]) ∧ Below w.heap.size w w':=
  fixq_Add.calls a b _ _ w (fq_add ha hb)
theorem charge_calls (w : World) (u n : Int) (hu : U u) (hn : n ≤ 9223372036854775807) : Calls Tryd.prog 46 #[.int .u64 u,.int .i64 n] w fun e w' => e = .returned (.int .u64 (chargeV u n)) ∧ Below w.heap.size w w':=
  decay_Charge.calls u n _ w (charge hu hn)
theorem fade_calls (w : World) (u f : Int) (hu : U u) (hf : U f) : Calls Tryd.prog 44 #[.int .u64 u,.int .u64 f] w fun e w' => e = .returned (.int .u64 (partV u f)) ∧ Below w.heap.size w w':=
  decay_Fade.calls u f _ w (fade hu hf)
theorem factor_calls (w : World) (hL : LaidW w) (p h : Int) : Calls Tryd.prog 30 #[.int .i64 p,.int .i64 h] w fun e w' => e = .returned (.tuple #[.int .u64 (factV p h).1,.int .i64 (factV p h).2]) ∧ Below w.heap.size w w':=
  decay_Factor.calls p h _ _ w hL (factor p h)
theorem check_calls (w : World) (a0 a1 a2 a3 a4 a5 a6 a7 : Int) : Calls Tryd.prog 19 #[.agg #[.int .i64 a0,.int .i64 a1,.int .i64 a2,.int .i64 a3,.int .i64 a4,.int .i64 a5,.int .i64 a6,.int .i64 a7]] w fun e w' => e = .returned (.int .i64 (checkV a0 a1 a2 a3 a4 a5 a6 a7)) ∧ Below w.heap.size w w':=
  config_Check.calls 10 a0 a1 a2 a3 a4 a5 a6 a7 _ w (p_check 10 (by omega) a0 a1 a2 a3 a4 a5 a6 a7)
theorem rdU {xs : List Int} (h : ∀ x ∈ xs,U x) (a : Int) : U (rd xs a):=by
  unfold rd
  rw [List.getD_eq_getElem?_getD]
  cases e : xs[a.toNat]? with
  | none => exact ⟨by decide,by decide⟩
  | some y => exact h y (List.mem_of_getElem? e)
theorem chargeU {u m : Int} (hu : U u) (hm : m ≤ 9223372036854775807) : U (chargeV u m):=by
  unfold chargeV
  by_cases c : m < 0
  · rw [if_pos c];exact hu
  · rw [if_neg c];exact capU (by have:=(capU (v:=m * 4294967296) (by omega)).1;have:=hu.1;omega)
end Go.Proofs.YtgjjfnjnjnbfgaaDoor.L
namespace Go.Proofs.YtgjjfnjnjnbfgaaDoor.L
open Go.RowKit Go.Proofs.YtgjjfnjnjnbfgaaDoorW.PrintWords Go.Proofs.YtgjjfnjnjnbfgaaDoorW.PrintLast Go.Proofs.YtgjjfnjnjnbfgaaDoor.H Go.Proofs.YtgjjfnjnjnbfgaaDoor.Q Go.Proofs.YtgjjfnjnjnbfgaaDoor.GLG
set_option linter.unusedVariables false
set_option linter.unusedSimpArgs false
/-- A ledger of the program at block g: its usages lie in a row of its own,from block B on. -/
structure LedAt (w : World) (B g : Nat) (A : Option Addr) (n c : Nat) (nodes factor : Int) (xs : List Int) : Prop where
  blk : w.heap[g]? = some (.cells #[.slice A n c,.int .i64 nodes,.int .u64 factor] 50 (0,0))
  own : w.ownsRow B 28 (Ei .u64).sz (.slice A n c) n (flat (Ei .u64) xs)
  len : xs.length = n
  ne : ∀ ad,A = some ad → ad.block ≠ g
  base : B ≤ g
  val : ∀ x ∈ xs,U x
  fac : U factor
  nod : 0 ≤ nodes ∧ nodes ≤ 9223372036854775807
def Foot (g : Nat) (A : Option Addr) (k : Nat) : Prop:=k = g ∨ ∃ ad,A = some ad ∧ k = ad.block
theorem LedAt.tn {w w' : World} {B g : Nat} {A : Option Addr} {n c : Nat} {nodes factor : Int} {xs : List Int} {F : Nat → Prop} (h : LedAt w B g A n c nodes factor xs) (hg : Tn w w' F) (hF : ∀ k,Foot g A k → ¬ F k) : LedAt w' B g A n c nodes factor xs:=
  ⟨blk_tn h.blk hg (hF g (.inl rfl)),own_tn h.own hg (fun k hk => hF k (.inr (by cases A with | none => simp [Value.ownBlock] at hk | some ad => exact ⟨ad,rfl,by simpa [Value.ownBlock] using hk.symm⟩))),h.len,h.ne,h.base,h.val,h.fac,h.nod⟩
theorem LedAt.gb {w w' : World} {B g : Nat} {A : Option Addr} {n c : Nat} {nodes factor : Int} {xs : List Int} (h : LedAt w B g A n c nodes factor xs) (hg : w.grownBy w' none) : LedAt w' B g A n c nodes factor xs:=
  h.tn (Tn.gb0 hg (fun _ => False)) (fun _ _ => id)
theorem LedAt.rd {w : World} {B g : Nat} {A : Option Addr} {n c : Nat} {nodes factor : Int} {xs : List Int} (h : LedAt w B g A n c nodes factor xs) : Rd (Ei .u64) w A n xs:=own_rd h.len h.own
theorem LedAt.lt {w : World} {B g : Nat} {A : Option Addr} {n c : Nat} {nodes factor : Int} {xs : List Int} (h : LedAt w B g A n c nodes factor xs) : g < w.heap.size:=blk_lt' h.blk
theorem LedAt.foot {w : World} {B g : Nat} {A : Option Addr} {n c : Nat} {nodes factor : Int} {xs : List Int} (h : LedAt w B g A n c nodes factor xs) : ∀ k,Foot g A k → B ≤ k ∧ k < w.heap.size:=by
  rintro k (rfl | ⟨ad,rfl,rfl⟩)
  · exact ⟨h.base,h.lt⟩
  · exact h.own.lt ad.block rfl
theorem LedAt.c0 {w : World} {B g : Nat} {A : Option Addr} {n c : Nat} {nodes factor : Int} {xs : List Int} (h : LedAt w B g A n c nodes factor xs) : w.cell? ⟨g,0,none⟩ = some (.slice A n c):=cell_of h.blk rfl
theorem LedAt.c1 {w : World} {B g : Nat} {A : Option Addr} {n c : Nat} {nodes factor : Int} {xs : List Int} (h : LedAt w B g A n c nodes factor xs) : w.cell? ⟨g,1,none⟩ = some (.int .i64 nodes):=cell_of h.blk rfl
theorem LedAt.c2 {w : World} {B g : Nat} {A : Option Addr} {n c : Nat} {nodes factor : Int} {xs : List Int} (h : LedAt w B g A n c nodes factor xs) : w.cell? ⟨g,2,none⟩ = some (.int .u64 factor):=cell_of h.blk rfl

def thereB (n : Nat) (a : Int) : Bool:=decide (0 ≤ a) && decide (a < (n : Int))
def ownV (xs : List Int) (a : Int) : Int:=if 0 ≤ a then rd xs a else 0
set_option maxHeartbeats 8000000 in
set_option maxRecDepth 100000 in
theorem there_calls (w : World) (g : Nat) (A : Option Addr) (n c : Nat) (a : Int) (hc : w.cell? ⟨g,0,none⟩ = some (.slice A n c)) :
    Calls Tryd.prog 45 #[.pointer (some ⟨g,0,none⟩),.int .i64 a] w fun e w' => e = .returned (.bool (thereB n a)) ∧ w = w':=by
  by_cases h0 : 0 ≤ a
  · have hb : decide (0 ≤ a) = true:=decide_eq_true h0
    by_cases h1 : a < (n : Int)
    · have hb1 : decide (a < (n : Int)) = true:=decide_eq_true h1
      have HF:=Aside0.mk (show thereB n a = true by unfold thereB;rw [hb,hb1];rfl)
      go_enter Tryd.func45,Tryd.ntmps45
      go_wp2
      go_ret
      exact ⟨by rw [HF.out];rfl,rfl⟩
    · have hb1 : decide (a < (n : Int)) = false:=decide_eq_false h1
      have HF:=Aside0.mk (show thereB n a = false by unfold thereB;rw [hb,hb1];rfl)
      go_enter Tryd.func45,Tryd.ntmps45
      go_wp2
      go_ret
      exact ⟨by rw [HF.out];rfl,rfl⟩
  · have hb : decide (0 ≤ a) = false:=decide_eq_false h0
    have HF:=Aside0.mk (show thereB n a = false by unfold thereB;rw [hb];rfl)
    clear h0
    go_enter Tryd.func45,Tryd.ntmps45
    go_wp2
    go_ret
    exact ⟨by rw [HF.out];rfl,rfl⟩
theorem there_true {n : Nat} {a : Int} (h : thereB n a = true) : ∃ k : Nat,a = k ∧ k < n:=by
  unfold thereB at h
  simp only [Bool.and_eq_true,decide_eq_true_eq] at h
  exact ⟨a.toNat,by omega,by omega⟩
theorem there_false {xs : List Int} {a : Int} (h : thereB xs.length a = false) : ownV xs a = 0:=by
  unfold thereB at h
  unfold ownV
  by_cases h0 : 0 ≤ a
  · rw [if_pos h0]
    have h1 : xs.length ≤ a.toNat:=by
      simp only [h0,decide_true,Bool.true_and,decide_eq_false_iff_not] at h
      omega
    simp [rd,List.getD_eq_getElem?_getD,List.getElem?_eq_none h1]
  · rw [if_neg h0]
set_option maxHeartbeats 8000000 in
set_option maxRecDepth 100000 in
theorem Own_calls (w : World) (g : Nat) (A : Option Addr) (n c : Nat) (xs : List Int) (a : Int) (hc : w.cell? ⟨g,0,none⟩ = some (.slice A n c)) (hr : Rd (Ei .u64) w A n xs) :
    Calls Tryd.prog 23 #[.pointer (some ⟨g,0,none⟩),.int .i64 a] w fun e w' => e = .returned (.int .u64 (ownV xs a)) ∧ w = w':=by
  have HT:=Aside0.mk (there_calls w g A n c a hc)
  have HN:=Aside0.mk hr.1
  have hl:=hr.2.1
  cases hb : thereB n a
  · have HE:=Aside0.mk (there_false (xs:=xs) (by rw [HN.out];exact hb))
    rw [hb] at HT
    clear hb hr
    go_enter Tryd.func23,Tryd.ntmps23
    go_wp2_with fail
    refine (HT.out).mono ?_
    rintro e w1 ⟨rfl,rfl⟩
    go_wp2
    go_ret
    exact ⟨by rw [HE.out];rfl,rfl⟩
  · obtain ⟨k,rfl,hk⟩:=there_true hb
    obtain ⟨ad,rfl,hcell⟩:=hr.int k hk
    have HE:=Aside0.mk (show ownV xs (k : Int) = rd xs (k : Int) by unfold ownV;rw [if_pos (by omega)])
    rw [hb] at HT
    clear hb hr
    go_enter Tryd.func23,Tryd.ntmps23
    go_wp2_with fail
    refine (HT.out).mono ?_
    rintro e w1 ⟨rfl,rfl⟩
    go_wp2
    go_ret
    exact ⟨by rw [HE.out];rfl,rfl⟩
def sumV (xs acc : List Int) : Int:=acc.foldl (fun s a => (capV (s + ownV xs a)).1) 0
theorem ownU {xs : List Int} (h : ∀ x ∈ xs,U x) (a : Int) : U (ownV xs a):=by
  unfold ownV
  split
  · unfold rd
    rw [List.getD_eq_getElem?_getD]
    cases e : xs[a.toNat]? with
    | none => exact ⟨by simp,by simp⟩
    | some y => exact h y (List.mem_of_getElem? e)
  · exact ⟨by omega,by omega⟩
theorem sum_foldU {xs : List Int} (h : ∀ x ∈ xs,U x) : ∀ (acc : List Int) (s : Int),U s → U (acc.foldl (fun s a => (capV (s + ownV xs a)).1) s)
  | [],s,hs => hs
  | a :: r,s,hs => sum_foldU h r _ (capU (by have:=(ownU h a).1;have:=hs.1;omega))
theorem sumU {xs : List Int} (h : ∀ x ∈ xs,U x) (acc : List Int) : U (sumV xs acc):=sum_foldU h acc 0 ⟨by omega,by omega⟩
theorem sum_step {xs acc : List Int} {j : Nat} (h : j < acc.length) : sumV xs (acc.take (j + 1)) = (capV (sumV xs (acc.take j) + ownV xs (rd acc (j : Int)))).1:=by
  unfold sumV
  rw [List.take_succ_eq_append_getElem h,List.foldl_append]
  simp [rd,List.getD_eq_getElem?_getD,List.getElem?_eq_getElem h]
set_option maxHeartbeats 8000000 in
set_option maxRecDepth 100000 in
theorem Sum_calls (w : World) (B g : Nat) (A : Option Addr) (q c : Nat) (nodes factor : Int) (xs : List Int) (D : Option Addr) (n d : Nat) (acc : List Int) (hL : LedAt w B g A q c nodes factor xs) (hr : Rd (Ei .i64) w D n acc) :
    Calls Tryd.prog 17 #[.pointer (some ⟨g,0,none⟩),.slice D n d] w fun e w' => e = .returned (.int .u64 (sumV xs acc)) ∧ w.grownBy w' none:=by
  have HL:=Aside0.mk hL
  have HR:=Aside0.mk hr
  have HN:=Aside0.mk hr.1
  have hl:=hr.2.1
  clear hL hr
  go_enter Tryd.func17,Tryd.ntmps17
  go_wp2_with fail
  go_loopg [5,10] n (fun k v5 v10 wr => ∃ (j : Nat) (s : Int),v5 = .int .u64 s ∧ v10 = .int .i64 j ∧ Aside0 (j + k = n) ∧ j ≤ n ∧ Aside0 (s = sumV xs (acc.take j)) ∧ Aside0 (w.grownBy wr none))
  case atStart => exact ⟨0,0,rfl,rfl,⟨by omega⟩,by omega,⟨rfl⟩,⟨gb_refl _ _⟩⟩
  case round =>
    obtain ⟨j,s,rfl,rfl,HD,hj,HS,HG⟩:=hrel
    cases gk with
    | zero =>
      obtain rfl : j = n:=by have:=HD.out;omega
      go_wp2
      go_ret
      exact ⟨by rw [HS.out,List.take_of_length_le (by rw [HN.out];exact Nat.le_refl _)];rfl,HG.out⟩
    | succ k =>
      have hlt : j < n:=by have:=HD.out;omega
      have hb1 : decide (j < n) = true:=decide_eq_true hlt
      obtain ⟨ad,rfl,hc⟩:=(HR.out.gb HG.out).int j hlt
      have HLr:=Aside0.mk (HL.out.gb HG.out)
      have HO:=Aside0.mk (Own_calls wr g A q c xs (rd acc (j : Int)) HLr.out.c0 HLr.out.rd)
      have HU:=Aside0.mk (And.intro (show U s by rw [HS.out];exact sumU HL.out.val _) (ownU HL.out.val (rd acc (j : Int))))
      go_wp2_with fail
      refine (HO.out).mono ?_
      rintro e w1 ⟨rfl,rfl⟩
      have HA:=Aside0.mk (add_calls wr s (ownV xs (rd acc (j : Int))) HU.out.1 HU.out.2)
      go_wp2_with fail
      refine (HA.out).mono ?_
      rintro e w2 ⟨rfl,hb⟩
      have HG2:=Aside0.mk (World.grownBy.trans HG.out (gb_of_below hb none))
      clear hb
      go_wp2_with fail
      go_roundg k
      case measure => omega
      case rel => exact ⟨j + 1,_,rfl,by go_num,⟨by have:=HD.out;omega⟩,by omega,⟨by rw [sum_step (by rw [HN.out];exact hlt),← HS.out]⟩,HG2⟩
/-- A row of one's own is answered;of what was there nothing has turned. -/
def NewRow (w : World) (xs : List Int) (e : Ending) (w' : World) : Prop:=∃ v,e = .returned v ∧ w'.ownsRow w.heap.size 28 (Ei .u64).sz v xs.length (flat (Ei .u64) xs) ∧ w.grownBy w' none
theorem rd_none {α : Type} {E : Enc α} {w : World} {n : Nat} {xs : List α} (h : Rd E w none n xs) : n = 0 ∧ xs = []:=by
  have h0 : n = 0:=by
    rcases Nat.eq_zero_or_pos n with h0 | h0
    · exact h0
    · obtain ⟨ad,e,_⟩:=h.2.2 h0;cases e
  exact ⟨h0,List.eq_nil_of_length_eq_zero (h.1.trans h0)⟩
theorem own_lit0 (w : World) : (w.alloc (.cells #[] 28)).ownsRow w.heap.size 28 (Ei .u64).sz (.slice (some ⟨w.heap.size,0,none⟩) 0 0) 0 (flat (Ei .u64) []):=
  World.ownsRow_lit (e:=28) (size:=1) w #[] 0 (Nat.le_refl _) (by simp [maxLen]) (by simp)
set_option maxHeartbeats 8000000 in
set_option maxRecDepth 100000 in
theorem clone_calls (w : World) (A : Option Addr) (n c : Nat) (xs : List Int) (hr : Rd (Ei .u64) w A n xs) (hs : n * 8 ≤ 140737488355328) :
    Calls Tryd.prog 31 #[.slice A n c] w (NewRow w xs):=by
  have HR:=Aside0.mk hr
  have HN:=Aside0.mk hr.1
  cases A with
  | none =>
    obtain ⟨rfl,rfl⟩:=rd_none hr
    have heq:=fun (W : World) (a : Option Addr) (l c : Nat) => Lib.run_eql_slice_nil (P:=Tryd.prog) W 24 28 a l c 0 0 Tryd.underlying24
    clear hr
    go_enter Tryd.func31,Tryd.ntmps31
    go_wp2
    go_ret
    exact ⟨_,rfl,World.ownsRow_nil _ _ _ _,gb_refl _ _⟩
  | some ad =>
    have heq:=fun (W : World) (a : Option Addr) (l c : Nat) => Lib.run_eql_slice_nil (P:=Tryd.prog) W 24 28 a l c 0 0 Tryd.underlying24
    have HR1:=Aside0.mk (rd_alloc hr (.cells #[] 28))
    have HN0:=Aside0.mk (own_lit0 w)
    have HG1:=Aside0.mk (World.grownBy_alloc w (.cells #[] 28) none)
    clear hr
    go_enter Tryd.func31,Tryd.ntmps31
    go_wp2_with (at_builtin;refine app (Ei .u64) w.heap.size rfl (.tmp 5) (.tmp 6) 24 28 (.int .u64 0) 8 rfl Tryd.underlying24 (by kernel_rfl) rfl (by decide) _ 0 [] xs _ n _ rfl rfl rfl HN0.out HR1.out HG1.out.size (by omega) ?_;intro v3 w3 ho hg hn;have HO3:=Aside0.mk ho;have HG3:=Aside0.mk (gb_new HG1.out hg (Nat.le_refl _));clear ho hg hn)
    go_ret
    refine ⟨_,rfl,?_,HG3.out⟩
    have h:=HO3.out
    rw [List.nil_append,Nat.zero_add,← HN.out] at h
    exact h
set_option maxHeartbeats 8000000 in
set_option maxRecDepth 100000 in
theorem List_calls (w : World) (B g : Nat) (A : Option Addr) (n c : Nat) (nodes factor : Int) (xs : List Int) (hL : LedAt w B g A n c nodes factor xs) (hs : n * 8 ≤ 140737488355328) :
    Calls Tryd.prog 20 #[.pointer (some ⟨g,0,none⟩)] w (NewRow w xs):=by
  have hc0:=hL.c0
  have HC:=Aside0.mk (clone_calls w A n c xs hL.rd hs)
  clear hL
  go_enter Tryd.func20,Tryd.ntmps20
  go_wp2_with fail
  refine (HC.out).mono ?_
  rintro e w1 ⟨v,rfl,ho,hg⟩
  have HO:=Aside0.mk ho
  have HG:=Aside0.mk hg
  clear ho hg
  go_wp2
  go_ret
  exact ⟨_,rfl,HO.out,HG.out⟩
end Go.Proofs.YtgjjfnjnjnbfgaaDoor.L
namespace Go.Proofs.YtgjjfnjnjnbfgaaDoor.L
open Go.RowKit Go.Proofs.YtgjjfnjnjnbfgaaDoorW.PrintWords Go.Proofs.YtgjjfnjnjnbfgaaDoorW.PrintLast Go.Proofs.YtgjjfnjnjnbfgaaDoor.H Go.Proofs.YtgjjfnjnjnbfgaaDoor.Q Go.Proofs.YtgjjfnjnjnbfgaaDoor.GLG
set_option linter.unusedVariables false
set_option linter.unusedSimpArgs false
theorem led_cell {w : World} {B g : Nat} {ab n c : Nat} {nodes factor : Int} {xs : List Int} (h : LedAt w B g (some ⟨ab,0,none⟩) n c nodes factor xs) (k : Nat) (hk : k < n) : w.cell? ⟨ab,k,none⟩ = some (.int .u64 (rd xs (k : Int))):=by
  have hk' : k < xs.length:=by rw [h.len];exact hk
  have:=own_cell h.own k 0 xs[k] (List.getElem?_eq_getElem hk') (by decide) (.int .u64 xs[k]) rfl
  simpa [Ei,rd,List.getD_eq_getElem?_getD,List.getElem?_eq_getElem hk'] using this
theorem led_form {w : World} {B g : Nat} {A : Option Addr} {n c : Nat} {nodes factor : Int} {xs : List Int} (h : LedAt w B g A n c nodes factor xs) (hp : 0 < n) : ∃ ab,A = some ⟨ab,0,none⟩ ∧ ab ≠ g:=by
  obtain ⟨ad,rfl,_⟩:=h.rd.2.2 hp
  have h1:=(own_form h.own).2 ad rfl
  exact ⟨ad.block,by rw [← h1],h.ne ad rfl⟩
/-- A store into the usages. -/
theorem LedAt.put {w : World} {B g : Nat} {ab n c : Nat} {nodes factor : Int} {xs : List Int} (h : LedAt w B g (some ⟨ab,0,none⟩) n c nodes factor xs) (k : Nat) (hk : k < n) (y : Int) (hy : U y) :
    LedAt (w.setCell ⟨ab,k,none⟩ (.int .u64 y)) B g (some ⟨ab,0,none⟩) n c nodes factor (xs.set k y):=by
  have hne:=h.ne _ rfl
  have hk' : k < xs.length:=by rw [h.len];exact hk
  refine ⟨?_,?_,by rw [List.length_set];exact h.len,h.ne,h.base,?_,h.fac,h.nod⟩
  · exact blk_tn h.blk (Tn.set ab k (.int .u64 y) (F:=fun i => i = ab) rfl) (fun e => hne e.symm)
  · have:=own_put h.own k 0 xs[k] y (.int .u64 y) (List.getElem?_eq_getElem hk') (by decide) rfl
    simpa [Ei] using this
  · intro x hx
    rcases List.mem_or_eq_of_mem_set hx with h1 | rfl
    · exact h.val x h1
    · exact hy
theorem a_below {A : Option Addr} {n c B : Nat} {w : World} {g : Nat} {e : TypeId} {sz : Nat} {xs : List Value} (h : w.ownsRow B e sz (.slice A n c) n xs) (hg : w.heap.size ≤ g) : ∀ ad,A = some ad → ad.block ≠ g:=fun ad ha he => by
  subst ha
  have:=(h.lt ad.block rfl).2
  omega

set_option maxHeartbeats 8000000 in
set_option maxRecDepth 100000 in
theorem New_bad (w : World) (a0 a1 a2 a3 a4 a5 a6 a7 : Int) (A : Option Addr) (n c : Nat) (h : checkV a0 a1 a2 a3 a4 a5 a6 a7 ≠ 0) :
    Calls Tryd.prog 9 #[.agg #[.int .i64 a0,.int .i64 a1,.int .i64 a2,.int .i64 a3,.int .i64 a4,.int .i64 a5,.int .i64 a6,.int .i64 a7],.slice A n c] w fun e w' => e = .returned (.tuple #[.pointer none,.int .i64 (checkV a0 a1 a2 a3 a4 a5 a6 a7)]) ∧ w.grownBy w' none:=by
  obtain ⟨r,hr⟩ : ∃ r,r = checkV a0 a1 a2 a3 a4 a5 a6 a7:=⟨_,rfl⟩
  rw [← hr] at h ⊢
  have HC:=Aside0.mk (check_calls (w.alloc (.cells #[.int .i64 a0,.int .i64 a1,.int .i64 a2,.int .i64 a3,.int .i64 a4,.int .i64 a5,.int .i64 a6,.int .i64 a7] 23)) a0 a1 a2 a3 a4 a5 a6 a7)
  rw [← hr] at HC
  have hb1 : (r == 0) = false:=by simpa using h
  have hb2 : (r != 0) = true:=by simpa using h
  clear hr h
  go_enter Tryd.func9,Tryd.ntmps9
  go_wp2_with fail
  refine (HC.out).mono ?_
  rintro e w2 ⟨rfl,hb⟩
  have HG:=Aside0.mk (World.grownBy.trans (World.grownBy_alloc w (.cells #[.int .i64 a0,.int .i64 a1,.int .i64 a2,.int .i64 a3,.int .i64 a4,.int .i64 a5,.int .i64 a6,.int .i64 a7] 23) none) (gb_of_below hb none))
  clear hb
  go_wp2_with fail
  go_ret2
  exact ⟨rfl,HG.out⟩
set_option maxHeartbeats 8000000 in
set_option maxRecDepth 100000 in
theorem New_many (w : World) (a0 a1 a2 a3 a4 a5 a6 a7 : Int) (A : Option Addr) (n c : Nat) (h : checkV a0 a1 a2 a3 a4 a5 a6 a7 = 0) (hn : 64 < n) :
    Calls Tryd.prog 9 #[.agg #[.int .i64 a0,.int .i64 a1,.int .i64 a2,.int .i64 a3,.int .i64 a4,.int .i64 a5,.int .i64 a6,.int .i64 a7],.slice A n c] w fun e w' => e = .returned (.tuple #[.pointer none,.int .i64 1]) ∧ w.grownBy w' none:=by
  have HC:=Aside0.mk (check_calls (w.alloc (.cells #[.int .i64 a0,.int .i64 a1,.int .i64 a2,.int .i64 a3,.int .i64 a4,.int .i64 a5,.int .i64 a6,.int .i64 a7] 23)) a0 a1 a2 a3 a4 a5 a6 a7)
  rw [h] at HC
  have hb1 : decide ((64 : Int) < (n : Int)) = true:=decide_eq_true (by omega)
  have hb2 : decide (64 < n) = true:=decide_eq_true hn
  clear h
  go_enter Tryd.func9,Tryd.ntmps9
  go_wp2_with fail
  refine (HC.out).mono ?_
  rintro e w2 ⟨rfl,hb⟩
  have HG:=Aside0.mk (World.grownBy.trans (World.grownBy_alloc w (.cells #[.int .i64 a0,.int .i64 a1,.int .i64 a2,.int .i64 a3,.int .i64 a4,.int .i64 a5,.int .i64 a6,.int .i64 a7] 23) none) (gb_of_below hb none))
  clear hb
  go_wp2_with fail
  go_ret2
  exact ⟨rfl,HG.out⟩
/-- A new ledger is answered,of a row and a block of its own. -/
def NewLed (w : World) (nodes factor : Int) (n : Nat) (xs : List Int) (code : Int) (e : Ending) (w' : World) : Prop:=
  ∃ g A c,e = .returned (.tuple #[.pointer (some ⟨g,0,none⟩),.int .i64 code]) ∧ LedAt w' w.heap.size g A n c nodes factor xs ∧ w.grownBy w' none
set_option maxHeartbeats 8000000 in
set_option maxRecDepth 100000 in
theorem New_ok (w : World) (hW : LaidW w) (a0 a1 a2 a3 a4 a5 a6 a7 : Int) (A : Option Addr) (n c : Nat) (xs : List Int) (h : checkV a0 a1 a2 a3 a4 a5 a6 a7 = 0) (hn : n ≤ 64) (hr : Rd (Ei .u64) w A n xs) (hv : ∀ x ∈ xs,U x) (hp0 : 0 ≤ a0) (hp1 : a0 ≤ 9223372036854775807) (hf : U (factV a6 a7).1) :
    Calls Tryd.prog 9 #[.agg #[.int .i64 a0,.int .i64 a1,.int .i64 a2,.int .i64 a3,.int .i64 a4,.int .i64 a5,.int .i64 a6,.int .i64 a7],.slice A n c] w (NewLed w a0 (factV a6 a7).1 n xs (factV a6 a7).2):=by
  have HC0:=Aside0.mk (check_calls (w.alloc (.cells #[.int .i64 a0,.int .i64 a1,.int .i64 a2,.int .i64 a3,.int .i64 a4,.int .i64 a5,.int .i64 a6,.int .i64 a7] 23)) a0 a1 a2 a3 a4 a5 a6 a7)
  rw [h] at HC0
  have HB0:=Aside0.mk (heap_alloc_new w (.cells #[.int .i64 a0,.int .i64 a1,.int .i64 a2,.int .i64 a3,.int .i64 a4,.int .i64 a5,.int .i64 a6,.int .i64 a7] 23))
  have HG0:=Aside0.mk (World.grownBy_alloc w (.cells #[.int .i64 a0,.int .i64 a1,.int .i64 a2,.int .i64 a3,.int .i64 a4,.int .i64 a5,.int .i64 a6,.int .i64 a7] 23) none)
  have HR0:=Aside0.mk hr
  have HLn:=Aside0.mk hr.1
  have HV:=Aside0.mk hv
  have HW:=Aside0.mk hW
  have HF:=Aside0.mk hf
  have hb1 : decide ((64 : Int) < (n : Int)) = false:=decide_eq_false (by omega)
  have hb2 : decide (64 < n) = false:=decide_eq_false (by omega)
  clear h hr hv hW hf
  go_enter Tryd.func9,Tryd.ntmps9
  go_wp2_with fail
  refine (HC0.out).mono ?_
  rintro e w1 ⟨rfl,hb⟩
  have HB1:=Aside0.mk (blk_kept HB0.out (gb_of_below hb none) (by simp))
  have HG1:=Aside0.mk (World.grownBy.trans HG0.out (gb_of_below hb none))
  clear hb HB0 HG0 HC0
  have hx6 : w1.cell? ⟨w.heap.size,6,none⟩ = some (.int .i64 a6):=cell_of HB1.out rfl
  have hx7 : w1.cell? ⟨w.heap.size,7,none⟩ = some (.int .i64 a7):=cell_of HB1.out rfl
  go_wp2_with fail
  refine (factor_calls w1 (laid_below HW.out (below_of_gb HG1.out)) a6 a7).mono ?_
  rintro e w2 ⟨rfl,hb⟩
  have HB2:=Aside0.mk (blk_kept HB1.out (gb_of_below hb none) (by simp))
  have HG2:=Aside0.mk (World.grownBy.trans HG1.out (gb_of_below hb none))
  clear hb HB1 HG1 hx6 hx7
  have HX:=Aside0.mk (show w2.drew.cell? ⟨w.heap.size,0,none⟩ = some (.int .i64 a0) from cell_of (j:=0) HB2.out rfl)
  have HGd:=Aside0.mk (World.grownBy.trans HG2.out (gb_drew w2 none))
  have HSd:=Aside0.mk HGd.out.size
  have HC:=Aside0.mk (clone_calls w2.drew A n c xs (HR0.out.gb HGd.out) (by omega))
  clear HB2 HG2
  go_wp2_with fail
  refine start_ (n:=11) (S:=fun w' => w'.cell? ⟨w.heap.size,0,none⟩ = some (.int .i64 a0)) (ds:=[]) #[false,false,false,false,false,false,false,false,false,false,false] (by kernel_rfl) rfl rfl (HX.out) (fun hHeld => ?_)
  refine pure_ (i:=0) (N:=some 25) (v:=?_) (a':=?_) #[true,false,false,false,false,false,false,false,false,false,false] rfl rfl (by kernel_rfl) (fun _ _ _ h => h) (Or.inl ⟨by rfl,?_⟩) ?_ ?_
  rotate_left
  · intro w'
    go_simp
    with_reducible rfl
  rotate_left
  · simp only [Act.put,List.setIfInBounds_toArray,List.set_cons_zero,List.set_cons_succ,i64_w,i32_w]
    rfl
  refine pure_ (i:=3) (N:=some 28) (v:=?_) (a':=?_) #[true,false,false,true,false,false,false,false,false,false,false] rfl rfl (by kernel_rfl) (fun _ _ _ h => h) (Or.inl ⟨by rfl,?_⟩) ?_ ?_
  rotate_left
  · intro w'
    go_simp
    with_reducible rfl
  rotate_left
  · simp only [Act.put,List.setIfInBounds_toArray,List.set_cons_zero,List.set_cons_succ,i64_w,i32_w]
    rfl
  refine pure_ (i:=5) (N:=some 30) (v:=?_) (a':=?_) #[true,false,false,true,false,true,false,false,false,false,false] rfl rfl (by kernel_rfl) (fun _ _ _ h => h) (Or.inl ⟨by rfl,?_⟩) ?_ ?_
  rotate_left
  · intro w'
    go_simp
    with_reducible rfl
  rotate_left
  · simp only [Act.put,List.setIfInBounds_toArray,List.set_cons_zero,List.set_cons_succ,i64_w,i32_w]
    rfl
  refine pure_ (i:=8) (N:=some 33) (v:=?_) (a':=?_) #[true,false,false,true,false,true,false,false,true,false,false] rfl rfl (by kernel_rfl) (fun _ _ _ h => h) (Or.inl ⟨by rfl,?_⟩) ?_ ?_
  rotate_left
  · intro w'
    go_simp
    with_reducible rfl
  rotate_left
  · simp only [Act.put,List.setIfInBounds_toArray,List.set_cons_zero,List.set_cons_succ,i64_w,i32_w]
    rfl
  refine take_ (i:=4) (N:=some 29) (v:=?_) (a':=?_) #[true,false,false,true,true,true,false,false,true,false,false] rfl rfl (by kernel_rfl) (fun _ _ _ h => h) (Or.inl ⟨by rfl,?_⟩) hHeld ?_ ?_
  rotate_left
  · intro w' s0
    go_simp
    with_reducible rfl
  rotate_left
  · simp only [Act.put,List.setIfInBounds_toArray,List.set_cons_zero,List.set_cons_succ,i64_w,i32_w]
    rfl
  refine one_ (i:=1) (N:=some 26) #[true,true,false,true,true,true,false,false,true,false,false] rfl rfl (by kernel_rfl) (by decide) (fun K hK => ?_)
  refine goes_ Tryd.func31 (by kernel_rfl) rfl #[.slice A n c] (by rfl) rfl rfl (by simp only [List.map_toArray,List.map_cons,List.map_nil];try rfl) ?_
  with_reducible refine (HC.out).mono ?_
  rintro e w3 ⟨v3,rfl,ho,hg⟩
  rw [HLn.out] at ho
  obtain ⟨A3,c3,rfl,-,-,-⟩:=own_open HLn.out ho
  refine ⟨_,rfl,?_⟩
  have HO3:=Aside0.mk ho;have HG3:=Aside0.mk (World.grownBy.trans HGd.out hg);have HX3:=Aside0.mk (hg.cell HX.out (by simp));clear ho hg HC HGd HX
  refine hK.out _ _ (HX3.out) (fun hHeld => ?_)
  clear hK K
  refine norm_ (a':=?_) ?_ ?_
  rotate_left
  · show Act.put _ (some 26) _ = _
    simp only [Act.put,List.setIfInBounds_toArray,List.set_cons_zero,List.set_cons_succ,i64_w,i32_w]
    rfl
  refine pure_ (i:=2) (N:=some 27) (v:=?_) (a':=?_) #[true,true,true,true,true,true,false,false,true,false,false] rfl rfl (by kernel_rfl) (fun _ _ _ h => h) (Or.inl ⟨by rfl,?_⟩) ?_ ?_
  rotate_left
  · intro w'
    go_simp
    with_reducible rfl
  rotate_left
  · simp only [Act.put,List.setIfInBounds_toArray,List.set_cons_zero,List.set_cons_succ,i64_w,i32_w]
    rfl
  refine pure_ (i:=6) (N:=some 31) (v:=?_) (a':=?_) #[true,true,true,true,true,true,true,false,true,false,false] rfl rfl (by kernel_rfl) (fun _ _ _ h => h) (Or.inl ⟨by rfl,?_⟩) ?_ ?_
  rotate_left
  · intro w'
    go_simp
    with_reducible rfl
  rotate_left
  · simp only [Act.put,List.setIfInBounds_toArray,List.set_cons_zero,List.set_cons_succ,i64_w,i32_w]
    rfl
  refine one_ (i:=7) (N:=some 32) #[true,true,true,true,true,true,true,true,true,false,false] rfl rfl (by kernel_rfl) (by decide) (fun K hK => ?_)
  refine value_ (w1:=?_) (v:=?_) (by rfl) rfl ?_ ?_
  rotate_left 2
  · go_simp
    constructor
    · rfl
    · rfl
  have HB7:=Aside0.mk (heap_alloc_new w3 (.cells #[.slice A3 n c3,.int .i64 a0,.int .u64 (factV a6 a7).1] 50));have HO7:=Aside0.mk (own_kept HO3.out (World.grownBy_alloc w3 (.cells #[.slice A3 n c3,.int .i64 a0,.int .u64 (factV a6 a7).1] 50) none) (by simp));have HG7:=Aside0.mk (World.grownBy.trans HG3.out (World.grownBy_alloc w3 (.cells #[.slice A3 n c3,.int .i64 a0,.int .u64 (factV a6 a7).1] 50) none));have HX7:=Aside0.mk ((World.grownBy_alloc w3 (.cells #[.slice A3 n c3,.int .i64 a0,.int .u64 (factV a6 a7).1] 50) none).cell HX3.out (by simp));have HN7:=Aside0.mk (a_below HO3.out (Nat.le_refl _));have HS7:=Aside0.mk HG3.out.size;clear HO3 HG3 HX3
  refine hK.out _ _ (HX7.out) (fun hHeld => ?_)
  clear hK K
  refine norm_ (a':=?_) ?_ ?_
  rotate_left
  · show Act.put _ (some 32) _ = _
    simp only [Act.put,List.setIfInBounds_toArray,List.set_cons_zero,List.set_cons_succ,i64_w,i32_w]
    rfl
  refine pure_ (i:=9) (N:=some 4) (v:=?_) (a':=?_) #[true,true,true,true,true,true,true,true,true,true,false] rfl rfl (by kernel_rfl) (fun _ _ _ h => h) (Or.inl ⟨by rfl,?_⟩) ?_ ?_
  rotate_left
  · intro w'
    go_simp
    with_reducible rfl
  rotate_left
  · simp only [Act.put,List.setIfInBounds_toArray,List.set_cons_zero,List.set_cons_succ,i64_w,i32_w]
    rfl
  refine pure_ (i:=10) (N:=some 5) (v:=?_) (a':=?_) #[true,true,true,true,true,true,true,true,true,true,true] rfl rfl (by kernel_rfl) (fun _ _ _ h => h) (Or.inl ⟨by rfl,?_⟩) ?_ ?_
  rotate_left
  · intro w'
    go_simp
    with_reducible rfl
  rotate_left
  · simp only [Act.put,List.setIfInBounds_toArray,List.set_cons_zero,List.set_cons_succ,i64_w,i32_w]
    rfl
  refine done_ (by kernel_rfl) ?_
  go_wp2
  go_ret2
  exact ⟨_,_,_,rfl,⟨HB7.out,own_mono HO7.out HSd.out,HLn.out,HN7.out,HS7.out,HV.out,HF.out,hp0,hp1⟩,HG7.out⟩
/-- What Open answers and leaves. -/
def OpenI (w : World) (B g : Nat) (A : Option Addr) (n : Nat) (nodes factor : Int) (xs : List Int) (e : Ending) (w' : World) : Prop:=
  ∃ A' c',e = .returned (.int .i64 (n : Int)) ∧ LedAt w' B g A' (n + 1) c' nodes factor (xs ++ [0]) ∧ Tn w w' (Foot g A) ∧ ∀ ad,A' = some ad → (∃ a0,A = some a0 ∧ ad.block = a0.block) ∨ w.heap.size ≤ ad.block
set_option maxHeartbeats 8000000 in
set_option maxRecDepth 100000 in
theorem Open_calls (w : World) (B g : Nat) (A : Option Addr) (n c : Nat) (nodes factor : Int) (xs : List Int) (h : LedAt w B g A n c nodes factor xs) (hn : n ≤ 1000) :
    Calls Tryd.prog 29 #[.pointer (some ⟨g,0,none⟩)] w (OpenI w B g A n nodes factor xs):=by
  have HL:=Aside0.mk h
  have HL1:=Aside0.mk (h.gb (World.grownBy_alloc w (.cells #[.int .u64 0] 28) none))
  have hc0:=h.c0
  have HB1 : Aside0 (B ≤ (w.alloc (.cells #[.int .u64 0] 28)).heap.size):=⟨by have:=h.lt;have:=h.base;simp;omega⟩
  have HR1:=Aside0.mk (show Rd (Ei .u64) (w.alloc (.cells #[.int .u64 0] 28)) (some ⟨w.heap.size,0,none⟩) 1 [0] from rd_lit (Ei .u64) w 28 [0] (by simp))
  have HLn:=Aside0.mk (show (xs ++ [0]).length = n + 1 by rw [List.length_append,h.len];rfl)
  clear h
  go_enter Tryd.func29,Tryd.ntmps29
  go_wp2_with (at_builtin;refine app_at (Ei .u64) B rfl (.tmp 7) (.tmp 8) 24 28 (.int .u64 0) 8 rfl Tryd.underlying24 (by kernel_rfl) rfl (by decide) (.slice A n c) n xs [0] ⟨w.heap.size,0,none⟩ 1 1 rfl rfl HL1.out.own HR1.out HB1.out (by omega) ?_;intro v3 w3 ho hg hat;obtain ⟨A3,c3,rfl,-,-,-⟩:=own_open HLn.out ho;have HO3:=Aside0.mk ho;have HG3:=Aside0.mk hg;have HA3:=Aside0.mk hat;have HK3:=Aside0.mk (blk_kept HL1.out.blk hg (by cases A with | none => simp [Value.ownBlock] | some ad => have:=HL1.out.ne ad rfl;simp [Value.ownBlock];omega));have hk3:=cell_of (j:=0) HK3.out rfl;have hf3:=frozen_of (j:=0) HK3.out;clear ho hg hat)
  go_ret
  have hL:=HL.out
  have hne : ∀ ad,A3 = some ad → (∃ a0,A = some a0 ∧ ad.block = a0.block) ∨ w.heap.size < ad.block:=fun ad ha => by
    subst ha
    rcases HA3.out with h1 | h1
    · cases A with
      | none => simp [Value.ownBlock] at h1
      | some a0 => exact .inl ⟨a0,rfl,by simpa [Value.ownBlock] using h1⟩
    · exact .inr (by simp [Value.ownBlock] at h1;omega)
  have hng : ∀ ad,A3 = some ad → ad.block ≠ g:=fun ad ha => by
    rcases hne ad ha with ⟨a0,h1,h2⟩ | h1
    · rw [h2];exact hL.ne a0 h1
    · have:=hL.lt;omega
  have hT : Tn w w3 (Foot g A):=(Tn.alloc w _ _).trans' (Tn.of_gb HG3.out (fun k hk => .inr (by cases A with | none => simp [Value.ownBlock] at hk | some ad => exact ⟨ad,rfl,by simpa [Value.ownBlock] using hk.symm⟩)))
  refine ⟨A3,c3,rfl,⟨?_,?_,HLn.out,hng,hL.base,?_,hL.fac,hL.nod⟩,hT.trans' (Tn.set g 0 _ (.inl rfl)),fun ad ha => (hne ad ha).imp id Nat.le_of_lt⟩
  · have:=blk_set 0 (.slice A3 (n + 1) c3) HK3.out
    simpa using this
  · exact own_tn HO3.out (Tn.set g 0 _ (F:=fun k => k = g) rfl) (fun k hk he => by cases A3 with | none => simp [Value.ownBlock] at hk | some ad => exact hng ad rfl (by simp [Value.ownBlock] at hk;omega))
  · intro x hx
    rcases List.mem_append.1 hx with h1 | h1
    · exact hL.val x h1
    · simp at h1;subst h1;exact ⟨by decide,by decide⟩
end Go.Proofs.YtgjjfnjnjnbfgaaDoor.L
namespace Go.Proofs.YtgjjfnjnjnbfgaaDoor.L
open Go.RowKit Go.Proofs.YtgjjfnjnjnbfgaaDoorW.PrintWords Go.Proofs.YtgjjfnjnjnbfgaaDoorW.PrintLast Go.Proofs.YtgjjfnjnjnbfgaaDoor.H Go.Proofs.YtgjjfnjnjnbfgaaDoor.Q Go.Proofs.YtgjjfnjnjnbfgaaDoor.GLG
set_option linter.unusedVariables false
set_option linter.unusedSimpArgs false
def chargeC (nodes : Int) (n : Nat) (a m : Int) : Int:=if thereB n a then (if m < 0 then 1 else if nodes < m then 1 else 0) else 120
def chargeL (nodes : Int) (n : Nat) (xs : List Int) (a m : Int) : List Int:=if chargeC nodes n a m = 0 then xs.set a.toNat (chargeV (rd xs a) m) else xs
/-- What Charge answers and leaves. -/
def ChargeI (w : World) (B g : Nat) (A : Option Addr) (n c : Nat) (nodes factor : Int) (xs : List Int) (a m : Int) (e : Ending) (w' : World) : Prop:=
  e = .returned (.int .i64 (chargeC nodes n a m)) ∧ LedAt w' B g A n c nodes factor (chargeL nodes n xs a m) ∧ Tn w w' (Foot g A)
set_option maxHeartbeats 8000000 in
set_option maxRecDepth 100000 in
theorem Charge_calls (w : World) (B g : Nat) (A : Option Addr) (n c : Nat) (nodes factor : Int) (xs : List Int) (a m : Int) (h : LedAt w B g A n c nodes factor xs) (hm : m ≤ 9223372036854775807) :
    Calls Tryd.prog 22 #[.pointer (some ⟨g,0,none⟩),.int .i64 a,.int .i64 m] w (ChargeI w B g A n c nodes factor xs a m):=by
  have HL:=Aside0.mk h
  have HT:=Aside0.mk (there_calls w g A n c a h.c0)
  have hc1:=h.c1
  obtain ⟨hp0,hp1⟩:=h.nod
  clear h
  cases hb : thereB n a
  · have HE:=Aside0.mk (show chargeC nodes n a m = 120 by unfold chargeC;rw [hb];rfl)
    have HE2:=Aside0.mk (show chargeL nodes n xs a m = xs by unfold chargeL;rw [HE.out];rfl)
    rw [hb] at HT
    clear hb
    go_enter Tryd.func22,Tryd.ntmps22
    go_wp2_with fail
    refine (HT.out).mono ?_
    rintro e w1 ⟨rfl,rfl⟩
    go_wp2
    go_ret
    exact ⟨by rw [HE.out];rfl,by rw [HE2.out];exact HL.out,Tn.refl _ _⟩
  · by_cases h0 : m < 0
    · have HE:=Aside0.mk (show chargeC nodes n a m = 1 by unfold chargeC;rw [hb,if_pos rfl,if_pos h0])
      have HE2:=Aside0.mk (show chargeL nodes n xs a m = xs by unfold chargeL;rw [HE.out];rfl)
      rw [hb] at HT
      have hb1 : decide (m < 0) = true:=decide_eq_true h0
      clear hb
      go_enter Tryd.func22,Tryd.ntmps22
      go_wp2_with fail
      refine (HT.out).mono ?_
      rintro e w1 ⟨rfl,rfl⟩
      go_wp2
      go_ret
      exact ⟨by rw [HE.out];rfl,by rw [HE2.out];exact HL.out,Tn.refl _ _⟩
    · have hb1 : decide (m < 0) = false:=decide_eq_false h0
      by_cases h1 : nodes < m
      · have HE:=Aside0.mk (show chargeC nodes n a m = 1 by unfold chargeC;rw [hb,if_pos rfl,if_neg h0,if_pos h1])
        have HE2:=Aside0.mk (show chargeL nodes n xs a m = xs by unfold chargeL;rw [HE.out];rfl)
        rw [hb] at HT
        have hb2 : decide (nodes < m) = true:=decide_eq_true h1
        clear hb
        go_enter Tryd.func22,Tryd.ntmps22
        go_wp2_with fail
        refine (HT.out).mono ?_
        rintro e w1 ⟨rfl,rfl⟩
        go_wp2
        go_ret
        exact ⟨by rw [HE.out];rfl,by rw [HE2.out];exact HL.out,Tn.refl _ _⟩
      · have hb2 : decide (nodes < m) = false:=decide_eq_false h1
        have HE:=Aside0.mk (show chargeC nodes n a m = 0 by unfold chargeC;rw [hb,if_pos rfl,if_neg h0,if_neg h1])
        have HE2:=Aside0.mk (show chargeL nodes n xs a m = xs.set a.toNat (chargeV (rd xs a) m) by unfold chargeL;rw [HE.out,if_pos rfl])
        rw [hb] at HT
        obtain ⟨k,rfl,hk⟩:=there_true hb
        rw [Int.toNat_natCast] at HE2
        obtain ⟨ab,rfl,hne⟩:=led_form HL.out (by omega)
        have HU:=Aside0.mk (show U (rd xs (k : Int)) from rdU HL.out.val (k : Int))
        have HUc:=Aside0.mk (chargeU HU.out hm)
        have HLd:=Aside0.mk (show LedAt w.drew B g (some ⟨ab,0,none⟩) n c nodes factor xs from HL.out.gb (gb_drew w none))
        have HCh:=Aside0.mk (charge_calls w.drew (rd xs (k : Int)) m HU.out hm)
        have hk1 : (k : Int) < (n : Int):=by omega
        have hk0 : (0 : Int) ≤ (k : Int):=by omega
        clear hb hne
        go_enter Tryd.func22,Tryd.ntmps22
        go_wp2_with fail
        refine (HT.out).mono ?_
        rintro e w1 ⟨rfl,rfl⟩
        go_wp2_with fail
        refine start_ (n:=18) (S:=fun w' => w'.cell? ⟨g,0,none⟩ = some (.slice (some ⟨ab,0,none⟩) n c) ∧ w'.cell? ⟨ab,k,none⟩ = some (.int .u64 (rd xs (k : Int)))) (ds:=[17]) #[false,false,false,false,false,false,false,false,false,false,false,false,false,false,false,false,false,false] (by kernel_rfl) rfl rfl ⟨HLd.out.c0,led_cell HLd.out k hk⟩ (fun hHeld => ?_)
        refine pure_ (i:=0) (N:=some 25) (v:=?_) (a':=?_) #[true,false,false,false,false,false,false,false,false,false,false,false,false,false,false,false,false,false] rfl rfl (by kernel_rfl) (fun _ _ _ h => h) (Or.inl ⟨by rfl,?_⟩) ?_ ?_
        rotate_left
        · intro w'
          go_simp
          with_reducible rfl
        rotate_left
        · simp only [Act.put,List.setIfInBounds_toArray,List.set_cons_zero,List.set_cons_succ,i64_w,i32_w]
          rfl
        refine pure_ (i:=1) (N:=some 26) (v:=?_) (a':=?_) #[true,true,false,false,false,false,false,false,false,false,false,false,false,false,false,false,false,false] rfl rfl (by kernel_rfl) (fun _ _ _ h => h) (Or.inl ⟨by rfl,?_⟩) ?_ ?_
        rotate_left
        · intro w'
          go_simp
          with_reducible rfl
        rotate_left
        · simp only [Act.put,List.setIfInBounds_toArray,List.set_cons_zero,List.set_cons_succ,i64_w,i32_w]
          rfl
        refine pure_ (i:=2) (N:=some 27) (v:=?_) (a':=?_) #[true,true,true,false,false,false,false,false,false,false,false,false,false,false,false,false,false,false] rfl rfl (by kernel_rfl) (fun _ _ _ h => h) (Or.inl ⟨by rfl,?_⟩) ?_ ?_
        rotate_left
        · intro w'
          go_simp
          with_reducible rfl
        rotate_left
        · simp only [Act.put,List.setIfInBounds_toArray,List.set_cons_zero,List.set_cons_succ,i64_w,i32_w]
          rfl
        refine pure_ (i:=3) (N:=some 28) (v:=?_) (a':=?_) #[true,true,true,true,false,false,false,false,false,false,false,false,false,false,false,false,false,false] rfl rfl (by kernel_rfl) (fun _ _ _ h => h) (Or.inl ⟨by rfl,?_⟩) ?_ ?_
        rotate_left
        · intro w'
          go_simp
          with_reducible rfl
        rotate_left
        · simp only [Act.put,List.setIfInBounds_toArray,List.set_cons_zero,List.set_cons_succ,i64_w,i32_w]
          rfl
        refine pure_ (i:=5) (N:=some 30) (v:=?_) (a':=?_) #[true,true,true,true,false,true,false,false,false,false,false,false,false,false,false,false,false,false] rfl rfl (by kernel_rfl) (fun _ _ _ h => h) (Or.inl ⟨by rfl,?_⟩) ?_ ?_
        rotate_left
        · intro w'
          go_simp
          with_reducible rfl
        rotate_left
        · simp only [Act.put,List.setIfInBounds_toArray,List.set_cons_zero,List.set_cons_succ,i64_w,i32_w]
          rfl
        refine pure_ (i:=6) (N:=some 31) (v:=?_) (a':=?_) #[true,true,true,true,false,true,true,false,false,false,false,false,false,false,false,false,false,false] rfl rfl (by kernel_rfl) (fun _ _ _ h => h) (Or.inl ⟨by rfl,?_⟩) ?_ ?_
        rotate_left
        · intro w'
          go_simp
          with_reducible rfl
        rotate_left
        · simp only [Act.put,List.setIfInBounds_toArray,List.set_cons_zero,List.set_cons_succ,i64_w,i32_w]
          rfl
        refine pure_ (i:=7) (N:=some 32) (v:=?_) (a':=?_) #[true,true,true,true,false,true,true,true,false,false,false,false,false,false,false,false,false,false] rfl rfl (by kernel_rfl) (fun _ _ _ h => h) (Or.inl ⟨by rfl,?_⟩) ?_ ?_
        rotate_left
        · intro w'
          go_simp
          with_reducible rfl
        rotate_left
        · simp only [Act.put,List.setIfInBounds_toArray,List.set_cons_zero,List.set_cons_succ,i64_w,i32_w]
          rfl
        refine pure_ (i:=8) (N:=some 33) (v:=?_) (a':=?_) #[true,true,true,true,false,true,true,true,true,false,false,false,false,false,false,false,false,false] rfl rfl (by kernel_rfl) (fun _ _ _ h => h) (Or.inl ⟨by rfl,?_⟩) ?_ ?_
        rotate_left
        · intro w'
          go_simp
          with_reducible rfl
        rotate_left
        · simp only [Act.put,List.setIfInBounds_toArray,List.set_cons_zero,List.set_cons_succ,i64_w,i32_w]
          rfl
        refine pure_ (i:=9) (N:=some 34) (v:=?_) (a':=?_) #[true,true,true,true,false,true,true,true,true,true,false,false,false,false,false,false,false,false] rfl rfl (by kernel_rfl) (fun _ _ _ h => h) (Or.inl ⟨by rfl,?_⟩) ?_ ?_
        rotate_left
        · intro w'
          go_simp
          with_reducible rfl
        rotate_left
        · simp only [Act.put,List.setIfInBounds_toArray,List.set_cons_zero,List.set_cons_succ,i64_w,i32_w]
          rfl
        refine pure_ (i:=11) (N:=some 36) (v:=?_) (a':=?_) #[true,true,true,true,false,true,true,true,true,true,false,true,false,false,false,false,false,false] rfl rfl (by kernel_rfl) (fun _ _ _ h => h) (Or.inl ⟨by rfl,?_⟩) ?_ ?_
        rotate_left
        · intro w'
          go_simp
          with_reducible rfl
        rotate_left
        · simp only [Act.put,List.setIfInBounds_toArray,List.set_cons_zero,List.set_cons_succ,i64_w,i32_w]
          rfl
        refine pure_ (i:=14) (N:=some 39) (v:=?_) (a':=?_) #[true,true,true,true,false,true,true,true,true,true,false,true,false,false,true,false,false,false] rfl rfl (by kernel_rfl) (fun _ _ _ h => h) (Or.inl ⟨by rfl,?_⟩) ?_ ?_
        rotate_left
        · intro w'
          go_simp
          with_reducible rfl
        rotate_left
        · simp only [Act.put,List.setIfInBounds_toArray,List.set_cons_zero,List.set_cons_succ,i64_w,i32_w]
          rfl
        refine take_ (i:=4) (N:=some 29) (v:=?_) (a':=?_) #[true,true,true,true,true,true,true,true,true,true,false,true,false,false,true,false,false,false] rfl rfl (by kernel_rfl) (fun _ _ _ h => h) (Or.inl ⟨by rfl,?_⟩) hHeld ?_ ?_
        rotate_left
        · rintro w' ⟨s0,s1⟩
          go_simp
          with_reducible rfl
        rotate_left
        · simp only [Act.put,List.setIfInBounds_toArray,List.set_cons_zero,List.set_cons_succ,i64_w,i32_w]
          rfl
        refine take_ (i:=10) (N:=some 35) (v:=?_) (a':=?_) #[true,true,true,true,true,true,true,true,true,true,true,true,false,false,true,false,false,false] rfl rfl (by kernel_rfl) (fun _ _ _ h => h) (Or.inl ⟨by rfl,?_⟩) hHeld ?_ ?_
        rotate_left
        · rintro w' ⟨s0,s1⟩
          go_simp
          with_reducible rfl
        rotate_left
        · simp only [Act.put,List.setIfInBounds_toArray,List.set_cons_zero,List.set_cons_succ,i64_w,i32_w]
          rfl
        refine pure_ (i:=12) (N:=some 37) (v:=?_) (a':=?_) #[true,true,true,true,true,true,true,true,true,true,true,true,true,false,true,false,false,false] rfl rfl (by kernel_rfl) (fun _ _ _ h => h) (Or.inl ⟨by rfl,?_⟩) ?_ ?_
        rotate_left
        · intro w'
          go_simp
          with_reducible rfl
        rotate_left
        · simp only [Act.put,List.setIfInBounds_toArray,List.set_cons_zero,List.set_cons_succ,i64_w,i32_w]
          rfl
        refine take_ (i:=13) (N:=some 38) (v:=?_) (a':=?_) #[true,true,true,true,true,true,true,true,true,true,true,true,true,true,true,false,false,false] rfl rfl (by kernel_rfl) (fun _ _ _ h => h) (Or.inl ⟨by rfl,?_⟩) hHeld ?_ ?_
        rotate_left
        · rintro w' ⟨s0,s1⟩
          go_simp
          with_reducible rfl
        rotate_left
        · simp only [Act.put,List.setIfInBounds_toArray,List.set_cons_zero,List.set_cons_succ,i64_w,i32_w]
          rfl
        refine one_ (i:=15) (N:=some 40) #[true,true,true,true,true,true,true,true,true,true,true,true,true,true,true,true,false,false] rfl rfl (by kernel_rfl) (by decide) (fun K hK => ?_)
        refine goes_ Tryd.func46 (by kernel_rfl) rfl #[.int .u64 (rd xs (k : Int)),.int .i64 m] (by rfl) rfl rfl (by simp only [List.map_toArray,List.map_cons,List.map_nil];try rfl) ?_
        with_reducible refine (HCh.out).mono ?_
        rintro e w3 ⟨rfl,hb⟩
        refine ⟨_,rfl,?_⟩
        have HL3:=Aside0.mk (HLd.out.gb (gb_of_below hb none));have HT3:=Aside0.mk ((Tn.drew w (Foot g (some ⟨ab,0,none⟩))).trans' (Tn.of_below hb _));have hf3:=own_frozen HL3.out.own (k : Nat);clear hb HLd HCh
        refine hK.out _ _ ⟨HL3.out.c0,led_cell HL3.out k hk⟩ (fun hHeld => ?_)
        clear hK K
        refine norm_ (a':=?_) ?_ ?_
        rotate_left
        · show Act.put _ (some 40) _ = _
          simp only [Act.put,List.setIfInBounds_toArray,List.set_cons_zero,List.set_cons_succ,i64_w,i32_w]
          rfl
        refine pure_ (i:=16) (N:=some 41) (v:=?_) (a':=?_) #[true,true,true,true,true,true,true,true,true,true,true,true,true,true,true,true,true,false] rfl rfl (by kernel_rfl) (fun _ _ _ h => h) (Or.inl ⟨by rfl,?_⟩) ?_ ?_
        rotate_left
        · intro w'
          go_simp
          with_reducible rfl
        rotate_left
        · simp only [Act.put,List.setIfInBounds_toArray,List.set_cons_zero,List.set_cons_succ,i64_w,i32_w]
          rfl
        refine last_ (i:=17) (N:=none) #[true,true,true,true,true,true,true,true,true,true,true,true,true,true,true,true,true,true] rfl rfl (by kernel_rfl) (by decide) (fun K hK => ?_)
        refine skip_ (w1:=?_) (by rfl) rfl ?_ ?_
        rotate_left
        · go_simp
          rfl
        refine hK.out _ _ ?_
        clear hK K
        refine done_ (by kernel_rfl) ?_
        go_wp2
        go_ret
        refine ⟨by rw [HE.out];rfl,?_,HT3.out.trans' (Tn.set ab k _ (.inr ⟨_,rfl,rfl⟩))⟩
        rw [HE2.out]
        exact HL3.out.put k hk _ HUc.out
/-- What Fade leaves. -/
def FadeI (w : World) (B g : Nat) (A : Option Addr) (n c : Nat) (nodes factor : Int) (xs : List Int) (e : Ending) (w' : World) : Prop:=
  e = .returned (.tuple #[]) ∧ LedAt w' B g A n c nodes factor (xs.map (fun x => partV x factor)) ∧ Tn w w' (Foot g A)
def fadeTo (factor : Int) (xs : List Int) (j : Nat) : List Int:=(xs.take j).map (fun x => partV x factor) ++ xs.drop j
theorem fade_rd {factor : Int} {xs : List Int} {j : Nat} (h : j < xs.length) : rd (fadeTo factor xs j) (j : Int) = xs[j]:=by
  have : (fadeTo factor xs j)[j]? = some xs[j]:=by
    unfold fadeTo
    rw [List.getElem?_append_right (by simp;omega)]
    simp [List.length_take,Nat.min_eq_left (Nat.le_of_lt h),List.getElem?_eq_getElem h]
  simp [rd,List.getD_eq_getElem?_getD,this]
theorem fade_step {factor : Int} {xs : List Int} {j : Nat} (h : j < xs.length) : (fadeTo factor xs j).set j (partV xs[j] factor) = fadeTo factor xs (j + 1):=by
  unfold fadeTo
  have hl : ((xs.take j).map (fun x => partV x factor)).length = j:=by simp;omega
  rw [List.set_append_right _ _ (by omega),hl,Nat.sub_self,List.drop_eq_getElem_cons h,List.set_cons_zero,List.take_succ_eq_append_getElem h,List.map_append,List.append_assoc]
  rfl
set_option maxHeartbeats 8000000 in
set_option maxRecDepth 100000 in
theorem Fade_calls (w : World) (B g : Nat) (A : Option Addr) (n c : Nat) (nodes factor : Int) (xs : List Int) (h : LedAt w B g A n c nodes factor xs) (hn : n ≤ 9223372036854775807) :
    Calls Tryd.prog 21 #[.pointer (some ⟨g,0,none⟩)] w (FadeI w B g A n c nodes factor xs):=by
  have HL:=Aside0.mk h
  have hc0:=h.c0
  have HLn:=Aside0.mk h.len
  clear h
  go_enter Tryd.func21,Tryd.ntmps21
  go_wp2_with fail
  go_loopg [10] n (fun k v10 wr => ∃ (j : Nat),v10 = .int .i64 j ∧ Aside0 (j + k = n) ∧ j ≤ n ∧ Aside0 (LedAt wr B g A n c nodes factor (fadeTo factor xs j)) ∧ Aside0 (Tn w wr (Foot g A)))
  case atStart => exact ⟨0,rfl,⟨by omega⟩,by omega,⟨by simpa [fadeTo] using HL.out⟩,⟨Tn.refl _ _⟩⟩
  case round =>
    obtain ⟨j,rfl,HD,hj,HA,HT⟩:=hrel
    cases gk with
    | zero =>
      obtain rfl : j = n:=by have:=HD.out;omega
      go_wp2
      go_end0
      refine ⟨rfl,?_,HT.out⟩
      have h:=HA.out
      rwa [fadeTo,List.take_of_length_le (by rw [HLn.out];exact Nat.le_refl _),List.drop_of_length_le (by rw [HLn.out];exact Nat.le_refl _),List.append_nil] at h
    | succ d =>
      have hlt : j < n:=by have:=HD.out;omega
      have hb1 : decide (j < n) = true:=decide_eq_true hlt
      have hlx : j < xs.length:=by rw [HLn.out];exact hlt
      obtain ⟨ab,rfl,hne⟩:=led_form HA.out (by omega)
      obtain ⟨ys,hys⟩ : ∃ ys,ys = fadeTo factor xs j:=⟨_,rfl⟩
      have HY:=Aside0.mk (show rd ys (j : Int) = xs[j] by rw [hys];exact fade_rd hlx)
      have HS:=Aside0.mk (show ys.set j (partV (rd ys (j : Int)) factor) = fadeTo factor xs (j + 1) by rw [HY.out,hys];exact fade_step hlx)
      have HA' : Aside0 (LedAt wr B g (some ⟨ab,0,none⟩) n c nodes factor ys):=⟨by rw [hys];exact HA.out⟩
      have hc1:=led_cell HA'.out j hlt
      have hc2:=HA'.out.c0
      have HU:=Aside0.mk (show U (rd ys (j : Int)) from rdU HA'.out.val (j : Int))
      have HUp:=Aside0.mk (partU HU.out HA'.out.fac)
      have HLd:=Aside0.mk (show LedAt wr.drew B g (some ⟨ab,0,none⟩) n c nodes factor ys from HA'.out.gb (gb_drew wr none))
      have HTd:=Aside0.mk (HT.out.trans' (Tn.drew wr (Foot g (some ⟨ab,0,none⟩))))
      have HCh:=Aside0.mk (fade_calls wr.drew (rd ys (j : Int)) factor HU.out HA'.out.fac)
      have hk1 : (j : Int) < (n : Int):=by omega
      have hk0 : (0 : Int) ≤ (j : Int):=by omega
      clear hys HA HA' HT hne
      go_wp2_with fail
      refine start_ (n:=14) (S:=fun w' => w'.cell? ⟨g,0,none⟩ = some (.slice (some ⟨ab,0,none⟩) n c) ∧ w'.cell? ⟨g,2,none⟩ = some (.int .u64 factor)) (ds:=[13]) #[false,false,false,false,false,false,false,false,false,false,false,false,false,false] (by kernel_rfl) rfl rfl ⟨HLd.out.c0,HLd.out.c2⟩ (fun hHeld => ?_)
      refine pure_ (i:=0) (N:=some 15) (v:=?_) (a':=?_) #[true,false,false,false,false,false,false,false,false,false,false,false,false,false] rfl rfl (by kernel_rfl) (fun _ _ _ h => h) (Or.inl ⟨by rfl,?_⟩) ?_ ?_
      rotate_left
      · intro w'
        go_simp
        with_reducible rfl
      rotate_left
      · simp only [Act.put,List.setIfInBounds_toArray,List.set_cons_zero,List.set_cons_succ,i64_w,i32_w]
        rfl
      refine pure_ (i:=1) (N:=some 16) (v:=?_) (a':=?_) #[true,true,false,false,false,false,false,false,false,false,false,false,false,false] rfl rfl (by kernel_rfl) (fun _ _ _ h => h) (Or.inl ⟨by rfl,?_⟩) ?_ ?_
      rotate_left
      · intro w'
        go_simp
        with_reducible rfl
      rotate_left
      · simp only [Act.put,List.setIfInBounds_toArray,List.set_cons_zero,List.set_cons_succ,i64_w,i32_w]
        rfl
      refine pure_ (i:=2) (N:=some 17) (v:=?_) (a':=?_) #[true,true,true,false,false,false,false,false,false,false,false,false,false,false] rfl rfl (by kernel_rfl) (fun _ _ _ h => h) (Or.inl ⟨by rfl,?_⟩) ?_ ?_
      rotate_left
      · intro w'
        go_simp
        with_reducible rfl
      rotate_left
      · simp only [Act.put,List.setIfInBounds_toArray,List.set_cons_zero,List.set_cons_succ,i64_w,i32_w]
        rfl
      refine pure_ (i:=3) (N:=some 18) (v:=?_) (a':=?_) #[true,true,true,true,false,false,false,false,false,false,false,false,false,false] rfl rfl (by kernel_rfl) (fun _ _ _ h => h) (Or.inl ⟨by rfl,?_⟩) ?_ ?_
      rotate_left
      · intro w'
        go_simp
        with_reducible rfl
      rotate_left
      · simp only [Act.put,List.setIfInBounds_toArray,List.set_cons_zero,List.set_cons_succ,i64_w,i32_w]
        rfl
      refine pure_ (i:=5) (N:=some 20) (v:=?_) (a':=?_) #[true,true,true,true,false,true,false,false,false,false,false,false,false,false] rfl rfl (by kernel_rfl) (fun _ _ _ h => h) (Or.inl ⟨by rfl,?_⟩) ?_ ?_
      rotate_left
      · intro w'
        go_simp
        with_reducible rfl
      rotate_left
      · simp only [Act.put,List.setIfInBounds_toArray,List.set_cons_zero,List.set_cons_succ,i64_w,i32_w]
        rfl
      refine pure_ (i:=6) (N:=some 21) (v:=?_) (a':=?_) #[true,true,true,true,false,true,true,false,false,false,false,false,false,false] rfl rfl (by kernel_rfl) (fun _ _ _ h => h) (Or.inl ⟨by rfl,?_⟩) ?_ ?_
      rotate_left
      · intro w'
        go_simp
        with_reducible rfl
      rotate_left
      · simp only [Act.put,List.setIfInBounds_toArray,List.set_cons_zero,List.set_cons_succ,i64_w,i32_w]
        rfl
      refine pure_ (i:=7) (N:=some 22) (v:=?_) (a':=?_) #[true,true,true,true,false,true,true,true,false,false,false,false,false,false] rfl rfl (by kernel_rfl) (fun _ _ _ h => h) (Or.inl ⟨by rfl,?_⟩) ?_ ?_
      rotate_left
      · intro w'
        go_simp
        with_reducible rfl
      rotate_left
      · simp only [Act.put,List.setIfInBounds_toArray,List.set_cons_zero,List.set_cons_succ,i64_w,i32_w]
        rfl
      refine pure_ (i:=8) (N:=some 23) (v:=?_) (a':=?_) #[true,true,true,true,false,true,true,true,true,false,false,false,false,false] rfl rfl (by kernel_rfl) (fun _ _ _ h => h) (Or.inl ⟨by rfl,?_⟩) ?_ ?_
      rotate_left
      · intro w'
        go_simp
        with_reducible rfl
      rotate_left
      · simp only [Act.put,List.setIfInBounds_toArray,List.set_cons_zero,List.set_cons_succ,i64_w,i32_w]
        rfl
      refine pure_ (i:=9) (N:=some 24) (v:=?_) (a':=?_) #[true,true,true,true,false,true,true,true,true,true,false,false,false,false] rfl rfl (by kernel_rfl) (fun _ _ _ h => h) (Or.inl ⟨by rfl,?_⟩) ?_ ?_
      rotate_left
      · intro w'
        go_simp
        with_reducible rfl
      rotate_left
      · simp only [Act.put,List.setIfInBounds_toArray,List.set_cons_zero,List.set_cons_succ,i64_w,i32_w]
        rfl
      refine take_ (i:=4) (N:=some 19) (v:=?_) (a':=?_) #[true,true,true,true,true,true,true,true,true,true,false,false,false,false] rfl rfl (by kernel_rfl) (fun _ _ _ h => h) (Or.inl ⟨by rfl,?_⟩) hHeld ?_ ?_
      rotate_left
      · rintro w' ⟨s0,s1⟩
        go_simp
        with_reducible rfl
      rotate_left
      · simp only [Act.put,List.setIfInBounds_toArray,List.set_cons_zero,List.set_cons_succ,i64_w,i32_w]
        rfl
      refine take_ (i:=10) (N:=some 25) (v:=?_) (a':=?_) #[true,true,true,true,true,true,true,true,true,true,true,false,false,false] rfl rfl (by kernel_rfl) (fun _ _ _ h => h) (Or.inl ⟨by rfl,?_⟩) hHeld ?_ ?_
      rotate_left
      · rintro w' ⟨s0,s1⟩
        go_simp
        with_reducible rfl
      rotate_left
      · simp only [Act.put,List.setIfInBounds_toArray,List.set_cons_zero,List.set_cons_succ,i64_w,i32_w]
        rfl
      refine one_ (i:=11) (N:=some 26) #[true,true,true,true,true,true,true,true,true,true,true,true,false,false] rfl rfl (by kernel_rfl) (by decide) (fun K hK => ?_)
      refine goes_ Tryd.func44 (by kernel_rfl) rfl #[.int .u64 (rd ys (j : Int)),.int .u64 factor] (by rfl) rfl rfl (by simp only [List.map_toArray,List.map_cons,List.map_nil];try rfl) ?_
      with_reducible refine (HCh.out).mono ?_
      rintro e w3 ⟨rfl,hb⟩
      refine ⟨_,rfl,?_⟩
      have HL3:=Aside0.mk (HLd.out.gb (gb_of_below hb none));have HT3:=Aside0.mk (HTd.out.trans' (Tn.of_below hb (Foot g (some ⟨ab,0,none⟩))));have hf3:=own_frozen HL3.out.own (j : Nat);have hq3:=led_cell HL3.out j hlt;clear hb HLd HTd HCh
      refine hK.out _ _ ⟨HL3.out.c0,HL3.out.c2⟩ (fun hHeld => ?_)
      clear hK K
      refine norm_ (a':=?_) ?_ ?_
      rotate_left
      · show Act.put _ (some 26) _ = _
        simp only [Act.put,List.setIfInBounds_toArray,List.set_cons_zero,List.set_cons_succ,i64_w,i32_w]
        rfl
      refine pure_ (i:=12) (N:=some 27) (v:=?_) (a':=?_) #[true,true,true,true,true,true,true,true,true,true,true,true,true,false] rfl rfl (by kernel_rfl) (fun _ _ _ h => h) (Or.inl ⟨by rfl,?_⟩) ?_ ?_
      rotate_left
      · intro w'
        go_simp
        with_reducible rfl
      rotate_left
      · simp only [Act.put,List.setIfInBounds_toArray,List.set_cons_zero,List.set_cons_succ,i64_w,i32_w]
        rfl
      refine last_ (i:=13) (N:=none) #[true,true,true,true,true,true,true,true,true,true,true,true,true,true] rfl rfl (by kernel_rfl) (by decide) (fun K hK => ?_)
      refine skip_ (w1:=?_) (by rfl) rfl ?_ ?_
      rotate_left
      · go_simp
        rfl
      refine hK.out _ _ ?_
      clear hK K
      refine done_ (by kernel_rfl) ?_
      go_wp2
      go_roundg d
      case measure => omega
      case rel =>
        refine ⟨j + 1,by go_num,⟨by have:=HD.out;omega⟩,by omega,⟨?_⟩,⟨HT3.out.trans' (Tn.set ab j _ (.inr ⟨_,rfl,rfl⟩))⟩⟩
        rw [← HS.out]
        exact HL3.out.put j hlt _ HUp.out
/-- What Clone answers: a ledger alike,of a row and a block of its own. -/
def CloneI (w : World) (n : Nat) (nodes factor : Int) (xs : List Int) (e : Ending) (w' : World) : Prop:=
  ∃ g A c,e = .returned (.pointer (some ⟨g,0,none⟩)) ∧ LedAt w' w.heap.size g A n c nodes factor xs ∧ w.grownBy w' none
set_option maxHeartbeats 8000000 in
set_option maxRecDepth 100000 in
theorem Clone_calls (w : World) (B g : Nat) (A : Option Addr) (n c : Nat) (nodes factor : Int) (xs : List Int) (h : LedAt w B g A n c nodes factor xs) (hs : n * 8 ≤ 140737488355328) :
    Calls Tryd.prog 13 #[.pointer (some ⟨g,0,none⟩)] w (CloneI w n nodes factor xs):=by
  have HL:=Aside0.mk h
  have hc0:=h.c0
  have hc1:=h.c1
  have hc2:=h.c2
  have hlt:=h.lt
  have HLn:=Aside0.mk h.len
  have HG1:=Aside0.mk (World.grownBy_alloc w (.cells #[.slice A n c,.int .i64 nodes,.int .u64 factor] 50) none)
  have HB1:=Aside0.mk (heap_alloc_new w (.cells #[.slice A n c,.int .i64 nodes,.int .u64 factor] 50))
  have HC:=Aside0.mk (clone_calls (w.alloc (.cells #[.slice A n c,.int .i64 nodes,.int .u64 factor] 50)) A n c xs (h.rd.gb (World.grownBy_alloc w _ none)) hs)
  clear h
  go_enter Tryd.func13,Tryd.ntmps13
  go_wp2_with fail
  refine (HC.out).mono ?_
  rintro e w2 ⟨v2,rfl,ho,hg⟩
  rw [HLn.out] at ho
  obtain ⟨A2,c2,rfl,-,-,ha⟩:=own_open HLn.out ho
  have HB2:=Aside0.mk (blk_kept HB1.out hg (by simp))
  have HO2:=Aside0.mk ho
  have HG2:=Aside0.mk (World.grownBy.trans HG1.out hg)
  have HA2:=Aside0.mk ha
  have hk2:=cell_of (j:=0) HB2.out rfl
  have hf2:=frozen_of (j:=0) HB2.out
  clear ho hg ha HB1 HG1
  go_wp2
  go_ret
  have hng : ∀ ad,A2 = some ad → ad.block ≠ w.heap.size:=fun ad ha => by have:=HA2.out ad ha;simp at this;omega
  have hT : Tn w2 (w2.setCell ⟨w.heap.size,0,none⟩ (.slice A2 n c2)) (fun k => k = w.heap.size):=Tn.set w.heap.size 0 _ rfl
  refine ⟨w.heap.size,A2,c2,rfl,⟨?_,?_,HLn.out,hng,Nat.le_refl _,HL.out.val,HL.out.fac,HL.out.nod⟩,?_⟩
  · have:=blk_set 0 (.slice A2 n c2) HB2.out
    simpa using this
  · exact own_tn (own_mono HO2.out (by simp)) hT (fun k hk he => by cases A2 with | none => simp [Value.ownBlock] at hk | some ad => exact hng ad rfl (by simp [Value.ownBlock] at hk;omega))
  · exact gb_new HG2.out (gb_setCell w2 w.heap.size 0 _) (Nat.le_refl _)
end Go.Proofs.YtgjjfnjnjnbfgaaDoor.L
namespace Go.Proofs.YtgjjfnjnjnbfgaaDoor.GLG
open Go.RowKit Go.Proofs.YtgjjfnjnjnbfgaaDoorW.PrintWords Go.Proofs.YtgjjfnjnjnbfgaaDoorW.PrintLast Go.Proofs.YtgjjfnjnjnbfgaaDoorW.PrintMore
attribute [local go_sem] max2_int min2_int max_two min_two max_three min_three max_four min_four   -- for this text's walks alone
set_option linter.unusedVariables false
set_option linter.unusedSimpArgs false
def backfillref11_within.f (a0 : Int) (a1 : Int) (a2 : Int) : Option (Bool):=if a0 ≥ a1 then (some (decide (a0 ≤ a2))) else (some false)
set_option maxHeartbeats 8000000 in
set_option maxRecDepth 100000 in
theorem backfillref11_within.calls (a0 : Int) (a1 : Int) (a2 : Int) (r : Bool) (w : World) (h : backfillref11_within.f a0 a1 a2 = some r) :
  Calls Tryd.prog 74 #[.int .i64 a0,.int .i64 a1,.int .i64 a2] w fun e w' => e = .returned (.bool r) ∧ Drawn0 w w':=by
 have H : (if a0 ≥ a1 then (some (decide (a0 ≤ a2))) else (some false)) = some r:=h
 clear h
 by_cases c4 : a0 ≥ a1
 ·rw [if_pos c4] at H
  have c4b0 : decide (a1 ≤ a0) = true:=decide_eq_true c4
  clear c4
  obtain rfl:=Option.some.inj H
  go_enter Tryd.func74,Tryd.ntmps74
  go_wp2
  go_ret
  exact ⟨by first | rfl | (simp;done) | (simp [*];done),by repeat (first | exact Drawn0.refl _ | apply Drawn0.step)⟩
 ·rw [if_neg c4] at H
  have c4b0 : decide (a1 ≤ a0) = false:=decide_eq_false c4
  clear c4
  obtain rfl:=Option.some.inj H
  go_enter Tryd.func74,Tryd.ntmps74
  go_wp2
  go_ret
  exact ⟨by first | rfl | (simp;done) | (simp [*];done),by repeat (first | exact Drawn0.refl _ | apply Drawn0.step)⟩

end Go.Proofs.YtgjjfnjnjnbfgaaDoor.GLG
