/- The texts of this claim, put together by program, what it does not name left out: part 4. Conditions: each theorem's own. -/
import Derived.Test.YtodibpddlibneaaGreatDoorY3
set_option maxHeartbeats 8000000
set_option maxRecDepth 100000
namespace Go.Proofs.YtodibpddlibneaaGreatDoor.GSH
open Go.RowKit YtodibpddlibneaaGreatDoorW.PrintWords YtodibpddlibneaaGreatDoorW.PrintLast YtodibpddlibneaaGreatDoorW.PrintMore
attribute [local go_sem] max2_int min2_int max_two min_two max_three min_three max_four min_four   -- for this text's walks alone
set_option linter.unusedVariables false
set_option linter.unusedSimpArgs false
def config_Check.f (k : Nat) (a0 a1 a2 a3 a4 a5 a6 a7 : Int) : Option Int:=(config_asked_ranges.f k a0 a1 a2 a3 a4 a5 a6 a7).bind fun e1 => if e1 = 0 then ((config_asked_usage.f a0 a1 a2 a3 a4 a5 a6 a7).bind fun e2 => if e2 = 0 then ((config_asked_scale.f a0 a1 a2 a3 a4 a5 a6 a7).bind fun e3 => if e3 = 0 then (config_asked_off.f a0 a1 a2 a3 a4 a5 a6 a7) else some e3) else some e2) else some e1
theorem config_Check.walk0 (k : Nat) (a0 a1 a2 a3 a4 a5 a6 a7 r : Int) (w : World) (A0 : Aside0 (config_asked_ranges.f k a0 a1 a2 a3 a4 a5 a6 a7 = some r)) (c2b0 : (r != 0) = true) :
  Calls Tryz.prog 16 #[.agg #[.int .i64 a0,.int .i64 a1,.int .i64 a2,.int .i64 a3,.int .i64 a4,.int .i64 a5,.int .i64 a6,.int .i64 a7]] w fun e w' => e = .returned (.int .i64 r) ∧ Below w.heap.size w w':=by
 have hu39:=Tryz.underlying23;have hu78:=Tryz.underlying73;have hmf : ∀ (fn : Fn) (first cap : Array Value) (w : World),(Instr.makeFunc fn first cap).run Tryz.prog w = .ok (.func fn first cap) w:=fun _ _ _ _ => rfl
 have hix0 : ∀ (x0 x1 x2 x3 : Value) (w : World),(Instr.index 75 (.agg #[x0,x1,x2,x3]) (.int .i64 0)).run Tryz.prog w = .ok x0 w:=by intros;kernel_rfl
 have HB:=Am (Below.refl w.heap.size w);go_enter Tryz.func16,Tryz.ntmps16;go_wp2_with (first | ((with_reducible refine gate_dst (N:=1) rfl ?_);refine bxA 1 #[.int .i64 a0,.int .i64 a1,.int .i64 a2,.int .i64 a3,.int .i64 a4,.int .i64 a5,.int .i64 a6,.int .i64 a7] 23 ?_;intro gb1 hg w5 hbox hb;have BKgb1:=Am (hbox);have GE1:=gW_ hg;replace HB:=hb_ hb;clear hb hbox hg;obtain ⟨hcz1_0,hcz1_1,hcz1_2,hcz1_3,hcz1_4,hcz1_5,hcz1_6,hcz1_7,hfz1_0,hfz1_1,hfz1_2,hfz1_3,hfz1_4,hfz1_5,hfz1_6,hfz1_7⟩:=k8 BKgb1.out) | ((with_reducible refine gate_dst (N:=3) rfl ?_);refine bxA 3 #[.int .i64 0,.int .i64 0,.int .i64 0,.int .i64 0,.int .i64 0,.int .i64 0,.int .i64 0,.int .i64 0] 73 ?_;intro gb2 hg w6 hbox hb;have BKgb2:=Am (hbox);have GE2:=gW_ hg;replace HB:=hb_ hb;clear hb hbox hg;have hcy0 : w6.cell? ⟨gb2,0,none⟩ = some (.int .i64 0):=(blk_cell BKgb2.out 0).trans rfl;have hcy1 : w6.cell? ⟨gb2,1,none⟩ = some (.int .i64 0):=(blk_cell BKgb2.out 1).trans rfl;have hcy2 : w6.cell? ⟨gb2,2,none⟩ = some (.int .i64 0):=(blk_cell BKgb2.out 2).trans rfl;have hcy3 : w6.cell? ⟨gb2,3,none⟩ = some (.int .i64 0):=(blk_cell BKgb2.out 3).trans rfl;have hcy4 : w6.cell? ⟨gb2,4,none⟩ = some (.int .i64 0):=(blk_cell BKgb2.out 4).trans rfl;have hcy5 : w6.cell? ⟨gb2,5,none⟩ = some (.int .i64 0):=(blk_cell BKgb2.out 5).trans rfl;have hcy6 : w6.cell? ⟨gb2,6,none⟩ = some (.int .i64 0):=(blk_cell BKgb2.out 6).trans rfl;have hcy7 : w6.cell? ⟨gb2,7,none⟩ = some (.int .i64 0):=(blk_cell BKgb2.out 7).trans rfl;have hfy0:=blk_frozen BKgb2.out 0;have hfy1:=blk_frozen BKgb2.out 1;have hfy2:=blk_frozen BKgb2.out 2;have hfy3:=blk_frozen BKgb2.out 3;have hfy4:=blk_frozen BKgb2.out 4;have hfy5:=blk_frozen BKgb2.out 5;have hfy6:=blk_frozen BKgb2.out 6;have hfy7:=blk_frozen BKgb2.out 7))
 have HB1:=Am (show Below w.heap.size w _ from bA (W:=((((((((w6.setCell ⟨gb2,0,none⟩ (.int .i64 a0)).setCell ⟨gb2,1,none⟩ (.int .i64 a1)).setCell ⟨gb2,2,none⟩ (.int .i64 a2)).setCell ⟨gb2,3,none⟩ (.int .i64 a3)).setCell ⟨gb2,4,none⟩ (.int .i64 a4)).setCell ⟨gb2,5,none⟩ (.int .i64 a5)).setCell ⟨gb2,6,none⟩ (.int .i64 a6)).setCell ⟨gb2,7,none⟩ (.int .i64 a7))));clear HB;have HB:=HB1;clear HB1;generalize ((((((((w6.setCell ⟨gb2,0,none⟩ (.int .i64 a0)).setCell ⟨gb2,1,none⟩ (.int .i64 a1)).setCell ⟨gb2,2,none⟩ (.int .i64 a2)).setCell ⟨gb2,3,none⟩ (.int .i64 a3)).setCell ⟨gb2,4,none⟩ (.int .i64 a4)).setCell ⟨gb2,5,none⟩ (.int .i64 a5)).setCell ⟨gb2,6,none⟩ (.int .i64 a6)).setCell ⟨gb2,7,none⟩ (.int .i64 a7)) = w7 at HB ⊢;refine wp_loop_rounds 5 ?_;rw [rounds_succ];go_wp2_with fail
 refine (config_asked_ranges.calls k a0 a1 a2 a3 a4 a5 a6 a7 r _ A0.out).mono ?_;rintro e w20 ⟨rfl,hb⟩;replace HB:=hb_ hb;clear hb;go_wp2_with fail
 go_ret;exact eA
theorem config_Check.walk1 (k : Nat) (a0 a1 a2 a3 a4 a5 a6 a7 r : Int) (w : World) (A0 : Aside0 (config_asked_ranges.f k a0 a1 a2 a3 a4 a5 a6 a7 = some 0)) (A1 : Aside0 (config_asked_usage.f a0 a1 a2 a3 a4 a5 a6 a7 = some r)) (c2b0 : (r != 0) = true) :
  Calls Tryz.prog 16 #[.agg #[.int .i64 a0,.int .i64 a1,.int .i64 a2,.int .i64 a3,.int .i64 a4,.int .i64 a5,.int .i64 a6,.int .i64 a7]] w fun e w' => e = .returned (.int .i64 r) ∧ Below w.heap.size w w':=by
 have hu39:=Tryz.underlying23;have hu78:=Tryz.underlying73;have hmf : ∀ (fn : Fn) (first cap : Array Value) (w : World),(Instr.makeFunc fn first cap).run Tryz.prog w = .ok (.func fn first cap) w:=fun _ _ _ _ => rfl
 have hix0 : ∀ (x0 x1 x2 x3 : Value) (w : World),(Instr.index 75 (.agg #[x0,x1,x2,x3]) (.int .i64 0)).run Tryz.prog w = .ok x0 w:=by intros;kernel_rfl
 have hix1 : ∀ (x0 x1 x2 x3 : Value) (w : World),(Instr.index 75 (.agg #[x0,x1,x2,x3]) (.int .i64 1)).run Tryz.prog w = .ok x1 w:=by intros;kernel_rfl
 have HB:=Am (Below.refl w.heap.size w);go_enter Tryz.func16,Tryz.ntmps16;go_wp2_with (first | ((with_reducible refine gate_dst (N:=1) rfl ?_);refine bxA 1 #[.int .i64 a0,.int .i64 a1,.int .i64 a2,.int .i64 a3,.int .i64 a4,.int .i64 a5,.int .i64 a6,.int .i64 a7] 23 ?_;intro gb1 hg w5 hbox hb;have BKgb1:=Am (hbox);have GE1:=gW_ hg;replace HB:=hb_ hb;clear hb hbox hg;obtain ⟨hcz1_0,hcz1_1,hcz1_2,hcz1_3,hcz1_4,hcz1_5,hcz1_6,hcz1_7,hfz1_0,hfz1_1,hfz1_2,hfz1_3,hfz1_4,hfz1_5,hfz1_6,hfz1_7⟩:=k8 BKgb1.out) | ((with_reducible refine gate_dst (N:=3) rfl ?_);refine bxA 3 #[.int .i64 0,.int .i64 0,.int .i64 0,.int .i64 0,.int .i64 0,.int .i64 0,.int .i64 0,.int .i64 0] 73 ?_;intro gb2 hg w6 hbox hb;have BKgb2:=Am (hbox);have GE2:=gW_ hg;replace HB:=hb_ hb;clear hb hbox hg;have hcy0 : w6.cell? ⟨gb2,0,none⟩ = some (.int .i64 0):=(blk_cell BKgb2.out 0).trans rfl;have hcy1 : w6.cell? ⟨gb2,1,none⟩ = some (.int .i64 0):=(blk_cell BKgb2.out 1).trans rfl;have hcy2 : w6.cell? ⟨gb2,2,none⟩ = some (.int .i64 0):=(blk_cell BKgb2.out 2).trans rfl;have hcy3 : w6.cell? ⟨gb2,3,none⟩ = some (.int .i64 0):=(blk_cell BKgb2.out 3).trans rfl;have hcy4 : w6.cell? ⟨gb2,4,none⟩ = some (.int .i64 0):=(blk_cell BKgb2.out 4).trans rfl;have hcy5 : w6.cell? ⟨gb2,5,none⟩ = some (.int .i64 0):=(blk_cell BKgb2.out 5).trans rfl;have hcy6 : w6.cell? ⟨gb2,6,none⟩ = some (.int .i64 0):=(blk_cell BKgb2.out 6).trans rfl;have hcy7 : w6.cell? ⟨gb2,7,none⟩ = some (.int .i64 0):=(blk_cell BKgb2.out 7).trans rfl;have hfy0:=blk_frozen BKgb2.out 0;have hfy1:=blk_frozen BKgb2.out 1;have hfy2:=blk_frozen BKgb2.out 2;have hfy3:=blk_frozen BKgb2.out 3;have hfy4:=blk_frozen BKgb2.out 4;have hfy5:=blk_frozen BKgb2.out 5;have hfy6:=blk_frozen BKgb2.out 6;have hfy7:=blk_frozen BKgb2.out 7))
 have HB1:=Am (show Below w.heap.size w _ from bA (W:=((((((((w6.setCell ⟨gb2,0,none⟩ (.int .i64 a0)).setCell ⟨gb2,1,none⟩ (.int .i64 a1)).setCell ⟨gb2,2,none⟩ (.int .i64 a2)).setCell ⟨gb2,3,none⟩ (.int .i64 a3)).setCell ⟨gb2,4,none⟩ (.int .i64 a4)).setCell ⟨gb2,5,none⟩ (.int .i64 a5)).setCell ⟨gb2,6,none⟩ (.int .i64 a6)).setCell ⟨gb2,7,none⟩ (.int .i64 a7))));clear HB;have HB:=HB1;clear HB1;generalize ((((((((w6.setCell ⟨gb2,0,none⟩ (.int .i64 a0)).setCell ⟨gb2,1,none⟩ (.int .i64 a1)).setCell ⟨gb2,2,none⟩ (.int .i64 a2)).setCell ⟨gb2,3,none⟩ (.int .i64 a3)).setCell ⟨gb2,4,none⟩ (.int .i64 a4)).setCell ⟨gb2,5,none⟩ (.int .i64 a5)).setCell ⟨gb2,6,none⟩ (.int .i64 a6)).setCell ⟨gb2,7,none⟩ (.int .i64 a7)) = w7 at HB ⊢;refine wp_loop_rounds 5 ?_;rw [rounds_succ];go_wp2_with fail
 refine (config_asked_ranges.calls k a0 a1 a2 a3 a4 a5 a6 a7 0 _ A0.out).mono ?_;rintro e w20 ⟨rfl,hb⟩;replace HB:=hb_ hb;clear hb;go_wp2_with fail
 rw [rounds_succ];go_wp2_with fail
 refine (config_asked_usage.calls a0 a1 a2 a3 a4 a5 a6 a7 r _ A1.out).mono ?_;rintro e w21 ⟨rfl,hb⟩;replace HB:=hb_ hb;clear hb;go_wp2_with fail
 go_ret;exact eA
theorem config_Check.walk2 (k : Nat) (a0 a1 a2 a3 a4 a5 a6 a7 r : Int) (w : World) (A0 : Aside0 (config_asked_ranges.f k a0 a1 a2 a3 a4 a5 a6 a7 = some 0)) (A1 : Aside0 (config_asked_usage.f a0 a1 a2 a3 a4 a5 a6 a7 = some 0)) (A2 : Aside0 (config_asked_scale.f a0 a1 a2 a3 a4 a5 a6 a7 = some r)) (c2b0 : (r != 0) = true) :
  Calls Tryz.prog 16 #[.agg #[.int .i64 a0,.int .i64 a1,.int .i64 a2,.int .i64 a3,.int .i64 a4,.int .i64 a5,.int .i64 a6,.int .i64 a7]] w fun e w' => e = .returned (.int .i64 r) ∧ Below w.heap.size w w':=by
 have hu39:=Tryz.underlying23;have hu78:=Tryz.underlying73;have hmf : ∀ (fn : Fn) (first cap : Array Value) (w : World),(Instr.makeFunc fn first cap).run Tryz.prog w = .ok (.func fn first cap) w:=fun _ _ _ _ => rfl
 have hix0 : ∀ (x0 x1 x2 x3 : Value) (w : World),(Instr.index 75 (.agg #[x0,x1,x2,x3]) (.int .i64 0)).run Tryz.prog w = .ok x0 w:=by intros;kernel_rfl
 have hix1 : ∀ (x0 x1 x2 x3 : Value) (w : World),(Instr.index 75 (.agg #[x0,x1,x2,x3]) (.int .i64 1)).run Tryz.prog w = .ok x1 w:=by intros;kernel_rfl
 have hix2 : ∀ (x0 x1 x2 x3 : Value) (w : World),(Instr.index 75 (.agg #[x0,x1,x2,x3]) (.int .i64 2)).run Tryz.prog w = .ok x2 w:=by intros;kernel_rfl
 have HB:=Am (Below.refl w.heap.size w);go_enter Tryz.func16,Tryz.ntmps16;go_wp2_with (first | ((with_reducible refine gate_dst (N:=1) rfl ?_);refine bxA 1 #[.int .i64 a0,.int .i64 a1,.int .i64 a2,.int .i64 a3,.int .i64 a4,.int .i64 a5,.int .i64 a6,.int .i64 a7] 23 ?_;intro gb1 hg w5 hbox hb;have BKgb1:=Am (hbox);have GE1:=gW_ hg;replace HB:=hb_ hb;clear hb hbox hg;obtain ⟨hcz1_0,hcz1_1,hcz1_2,hcz1_3,hcz1_4,hcz1_5,hcz1_6,hcz1_7,hfz1_0,hfz1_1,hfz1_2,hfz1_3,hfz1_4,hfz1_5,hfz1_6,hfz1_7⟩:=k8 BKgb1.out) | ((with_reducible refine gate_dst (N:=3) rfl ?_);refine bxA 3 #[.int .i64 0,.int .i64 0,.int .i64 0,.int .i64 0,.int .i64 0,.int .i64 0,.int .i64 0,.int .i64 0] 73 ?_;intro gb2 hg w6 hbox hb;have BKgb2:=Am (hbox);have GE2:=gW_ hg;replace HB:=hb_ hb;clear hb hbox hg;have hcy0 : w6.cell? ⟨gb2,0,none⟩ = some (.int .i64 0):=(blk_cell BKgb2.out 0).trans rfl;have hcy1 : w6.cell? ⟨gb2,1,none⟩ = some (.int .i64 0):=(blk_cell BKgb2.out 1).trans rfl;have hcy2 : w6.cell? ⟨gb2,2,none⟩ = some (.int .i64 0):=(blk_cell BKgb2.out 2).trans rfl;have hcy3 : w6.cell? ⟨gb2,3,none⟩ = some (.int .i64 0):=(blk_cell BKgb2.out 3).trans rfl;have hcy4 : w6.cell? ⟨gb2,4,none⟩ = some (.int .i64 0):=(blk_cell BKgb2.out 4).trans rfl;have hcy5 : w6.cell? ⟨gb2,5,none⟩ = some (.int .i64 0):=(blk_cell BKgb2.out 5).trans rfl;have hcy6 : w6.cell? ⟨gb2,6,none⟩ = some (.int .i64 0):=(blk_cell BKgb2.out 6).trans rfl;have hcy7 : w6.cell? ⟨gb2,7,none⟩ = some (.int .i64 0):=(blk_cell BKgb2.out 7).trans rfl;have hfy0:=blk_frozen BKgb2.out 0;have hfy1:=blk_frozen BKgb2.out 1;have hfy2:=blk_frozen BKgb2.out 2;have hfy3:=blk_frozen BKgb2.out 3;have hfy4:=blk_frozen BKgb2.out 4;have hfy5:=blk_frozen BKgb2.out 5;have hfy6:=blk_frozen BKgb2.out 6;have hfy7:=blk_frozen BKgb2.out 7))
 have HB1:=Am (show Below w.heap.size w _ from bA (W:=((((((((w6.setCell ⟨gb2,0,none⟩ (.int .i64 a0)).setCell ⟨gb2,1,none⟩ (.int .i64 a1)).setCell ⟨gb2,2,none⟩ (.int .i64 a2)).setCell ⟨gb2,3,none⟩ (.int .i64 a3)).setCell ⟨gb2,4,none⟩ (.int .i64 a4)).setCell ⟨gb2,5,none⟩ (.int .i64 a5)).setCell ⟨gb2,6,none⟩ (.int .i64 a6)).setCell ⟨gb2,7,none⟩ (.int .i64 a7))));clear HB;have HB:=HB1;clear HB1;generalize ((((((((w6.setCell ⟨gb2,0,none⟩ (.int .i64 a0)).setCell ⟨gb2,1,none⟩ (.int .i64 a1)).setCell ⟨gb2,2,none⟩ (.int .i64 a2)).setCell ⟨gb2,3,none⟩ (.int .i64 a3)).setCell ⟨gb2,4,none⟩ (.int .i64 a4)).setCell ⟨gb2,5,none⟩ (.int .i64 a5)).setCell ⟨gb2,6,none⟩ (.int .i64 a6)).setCell ⟨gb2,7,none⟩ (.int .i64 a7)) = w7 at HB ⊢;refine wp_loop_rounds 5 ?_;rw [rounds_succ];go_wp2_with fail
 refine (config_asked_ranges.calls k a0 a1 a2 a3 a4 a5 a6 a7 0 _ A0.out).mono ?_;rintro e w20 ⟨rfl,hb⟩;replace HB:=hb_ hb;clear hb;go_wp2_with fail
 rw [rounds_succ];go_wp2_with fail
 refine (config_asked_usage.calls a0 a1 a2 a3 a4 a5 a6 a7 0 _ A1.out).mono ?_;rintro e w21 ⟨rfl,hb⟩;replace HB:=hb_ hb;clear hb;go_wp2_with fail
 rw [rounds_succ];go_wp2_with fail
 refine (config_asked_scale.calls a0 a1 a2 a3 a4 a5 a6 a7 r _ A2.out).mono ?_;rintro e w22 ⟨rfl,hb⟩;replace HB:=hb_ hb;clear hb;go_wp2_with fail
 go_ret;exact eA
theorem config_Check.walk3 (k : Nat) (a0 a1 a2 a3 a4 a5 a6 a7 r : Int) (w : World) (A0 : Aside0 (config_asked_ranges.f k a0 a1 a2 a3 a4 a5 a6 a7 = some 0)) (A1 : Aside0 (config_asked_usage.f a0 a1 a2 a3 a4 a5 a6 a7 = some 0)) (A2 : Aside0 (config_asked_scale.f a0 a1 a2 a3 a4 a5 a6 a7 = some 0)) (A3 : Aside0 (config_asked_off.f a0 a1 a2 a3 a4 a5 a6 a7 = some r)) (c2b0 : (r != 0) = true) :
  Calls Tryz.prog 16 #[.agg #[.int .i64 a0,.int .i64 a1,.int .i64 a2,.int .i64 a3,.int .i64 a4,.int .i64 a5,.int .i64 a6,.int .i64 a7]] w fun e w' => e = .returned (.int .i64 r) ∧ Below w.heap.size w w':=by
 have hu39:=Tryz.underlying23;have hu78:=Tryz.underlying73;have hmf : ∀ (fn : Fn) (first cap : Array Value) (w : World),(Instr.makeFunc fn first cap).run Tryz.prog w = .ok (.func fn first cap) w:=fun _ _ _ _ => rfl
 have hix0 : ∀ (x0 x1 x2 x3 : Value) (w : World),(Instr.index 75 (.agg #[x0,x1,x2,x3]) (.int .i64 0)).run Tryz.prog w = .ok x0 w:=by intros;kernel_rfl
 have hix1 : ∀ (x0 x1 x2 x3 : Value) (w : World),(Instr.index 75 (.agg #[x0,x1,x2,x3]) (.int .i64 1)).run Tryz.prog w = .ok x1 w:=by intros;kernel_rfl
 have hix2 : ∀ (x0 x1 x2 x3 : Value) (w : World),(Instr.index 75 (.agg #[x0,x1,x2,x3]) (.int .i64 2)).run Tryz.prog w = .ok x2 w:=by intros;kernel_rfl
 have hix3 : ∀ (x0 x1 x2 x3 : Value) (w : World),(Instr.index 75 (.agg #[x0,x1,x2,x3]) (.int .i64 3)).run Tryz.prog w = .ok x3 w:=by intros;kernel_rfl
 have HB:=Am (Below.refl w.heap.size w);go_enter Tryz.func16,Tryz.ntmps16;go_wp2_with (first | ((with_reducible refine gate_dst (N:=1) rfl ?_);refine bxA 1 #[.int .i64 a0,.int .i64 a1,.int .i64 a2,.int .i64 a3,.int .i64 a4,.int .i64 a5,.int .i64 a6,.int .i64 a7] 23 ?_;intro gb1 hg w5 hbox hb;have BKgb1:=Am (hbox);have GE1:=gW_ hg;replace HB:=hb_ hb;clear hb hbox hg;obtain ⟨hcz1_0,hcz1_1,hcz1_2,hcz1_3,hcz1_4,hcz1_5,hcz1_6,hcz1_7,hfz1_0,hfz1_1,hfz1_2,hfz1_3,hfz1_4,hfz1_5,hfz1_6,hfz1_7⟩:=k8 BKgb1.out) | ((with_reducible refine gate_dst (N:=3) rfl ?_);refine bxA 3 #[.int .i64 0,.int .i64 0,.int .i64 0,.int .i64 0,.int .i64 0,.int .i64 0,.int .i64 0,.int .i64 0] 73 ?_;intro gb2 hg w6 hbox hb;have BKgb2:=Am (hbox);have GE2:=gW_ hg;replace HB:=hb_ hb;clear hb hbox hg;have hcy0 : w6.cell? ⟨gb2,0,none⟩ = some (.int .i64 0):=(blk_cell BKgb2.out 0).trans rfl;have hcy1 : w6.cell? ⟨gb2,1,none⟩ = some (.int .i64 0):=(blk_cell BKgb2.out 1).trans rfl;have hcy2 : w6.cell? ⟨gb2,2,none⟩ = some (.int .i64 0):=(blk_cell BKgb2.out 2).trans rfl;have hcy3 : w6.cell? ⟨gb2,3,none⟩ = some (.int .i64 0):=(blk_cell BKgb2.out 3).trans rfl;have hcy4 : w6.cell? ⟨gb2,4,none⟩ = some (.int .i64 0):=(blk_cell BKgb2.out 4).trans rfl;have hcy5 : w6.cell? ⟨gb2,5,none⟩ = some (.int .i64 0):=(blk_cell BKgb2.out 5).trans rfl;have hcy6 : w6.cell? ⟨gb2,6,none⟩ = some (.int .i64 0):=(blk_cell BKgb2.out 6).trans rfl;have hcy7 : w6.cell? ⟨gb2,7,none⟩ = some (.int .i64 0):=(blk_cell BKgb2.out 7).trans rfl;have hfy0:=blk_frozen BKgb2.out 0;have hfy1:=blk_frozen BKgb2.out 1;have hfy2:=blk_frozen BKgb2.out 2;have hfy3:=blk_frozen BKgb2.out 3;have hfy4:=blk_frozen BKgb2.out 4;have hfy5:=blk_frozen BKgb2.out 5;have hfy6:=blk_frozen BKgb2.out 6;have hfy7:=blk_frozen BKgb2.out 7))
 have HB1:=Am (show Below w.heap.size w _ from bA (W:=((((((((w6.setCell ⟨gb2,0,none⟩ (.int .i64 a0)).setCell ⟨gb2,1,none⟩ (.int .i64 a1)).setCell ⟨gb2,2,none⟩ (.int .i64 a2)).setCell ⟨gb2,3,none⟩ (.int .i64 a3)).setCell ⟨gb2,4,none⟩ (.int .i64 a4)).setCell ⟨gb2,5,none⟩ (.int .i64 a5)).setCell ⟨gb2,6,none⟩ (.int .i64 a6)).setCell ⟨gb2,7,none⟩ (.int .i64 a7))));clear HB;have HB:=HB1;clear HB1;generalize ((((((((w6.setCell ⟨gb2,0,none⟩ (.int .i64 a0)).setCell ⟨gb2,1,none⟩ (.int .i64 a1)).setCell ⟨gb2,2,none⟩ (.int .i64 a2)).setCell ⟨gb2,3,none⟩ (.int .i64 a3)).setCell ⟨gb2,4,none⟩ (.int .i64 a4)).setCell ⟨gb2,5,none⟩ (.int .i64 a5)).setCell ⟨gb2,6,none⟩ (.int .i64 a6)).setCell ⟨gb2,7,none⟩ (.int .i64 a7)) = w7 at HB ⊢;refine wp_loop_rounds 5 ?_;rw [rounds_succ];go_wp2_with fail
 refine (config_asked_ranges.calls k a0 a1 a2 a3 a4 a5 a6 a7 0 _ A0.out).mono ?_;rintro e w20 ⟨rfl,hb⟩;replace HB:=hb_ hb;clear hb;go_wp2_with fail
 rw [rounds_succ];go_wp2_with fail
 refine (config_asked_usage.calls a0 a1 a2 a3 a4 a5 a6 a7 0 _ A1.out).mono ?_;rintro e w21 ⟨rfl,hb⟩;replace HB:=hb_ hb;clear hb;go_wp2_with fail
 rw [rounds_succ];go_wp2_with fail
 refine (config_asked_scale.calls a0 a1 a2 a3 a4 a5 a6 a7 0 _ A2.out).mono ?_;rintro e w22 ⟨rfl,hb⟩;replace HB:=hb_ hb;clear hb;go_wp2_with fail
 rw [rounds_succ];go_wp2_with fail
 refine (config_asked_off.calls a0 a1 a2 a3 a4 a5 a6 a7 r _ A3.out).mono ?_;rintro e w23 ⟨rfl,hb⟩;replace HB:=hb_ hb;clear hb;go_wp2_with fail
 go_ret;exact eA
theorem config_Check.walk4 (k : Nat) (a0 a1 a2 a3 a4 a5 a6 a7 : Int) (w : World) (A0 : Aside0 (config_asked_ranges.f k a0 a1 a2 a3 a4 a5 a6 a7 = some 0)) (A1 : Aside0 (config_asked_usage.f a0 a1 a2 a3 a4 a5 a6 a7 = some 0)) (A2 : Aside0 (config_asked_scale.f a0 a1 a2 a3 a4 a5 a6 a7 = some 0)) (A3 : Aside0 (config_asked_off.f a0 a1 a2 a3 a4 a5 a6 a7 = some 0)) :
  Calls Tryz.prog 16 #[.agg #[.int .i64 a0,.int .i64 a1,.int .i64 a2,.int .i64 a3,.int .i64 a4,.int .i64 a5,.int .i64 a6,.int .i64 a7]] w fun e w' => e = .returned (.int .i64 0) ∧ Below w.heap.size w w':=by
 have hu39:=Tryz.underlying23;have hu78:=Tryz.underlying73;have hmf : ∀ (fn : Fn) (first cap : Array Value) (w : World),(Instr.makeFunc fn first cap).run Tryz.prog w = .ok (.func fn first cap) w:=fun _ _ _ _ => rfl
 have hix0 : ∀ (x0 x1 x2 x3 : Value) (w : World),(Instr.index 75 (.agg #[x0,x1,x2,x3]) (.int .i64 0)).run Tryz.prog w = .ok x0 w:=by intros;kernel_rfl
 have hix1 : ∀ (x0 x1 x2 x3 : Value) (w : World),(Instr.index 75 (.agg #[x0,x1,x2,x3]) (.int .i64 1)).run Tryz.prog w = .ok x1 w:=by intros;kernel_rfl
 have hix2 : ∀ (x0 x1 x2 x3 : Value) (w : World),(Instr.index 75 (.agg #[x0,x1,x2,x3]) (.int .i64 2)).run Tryz.prog w = .ok x2 w:=by intros;kernel_rfl
 have hix3 : ∀ (x0 x1 x2 x3 : Value) (w : World),(Instr.index 75 (.agg #[x0,x1,x2,x3]) (.int .i64 3)).run Tryz.prog w = .ok x3 w:=by intros;kernel_rfl
 have HB:=Am (Below.refl w.heap.size w);go_enter Tryz.func16,Tryz.ntmps16;go_wp2_with (first | ((with_reducible refine gate_dst (N:=1) rfl ?_);refine bxA 1 #[.int .i64 a0,.int .i64 a1,.int .i64 a2,.int .i64 a3,.int .i64 a4,.int .i64 a5,.int .i64 a6,.int .i64 a7] 23 ?_;intro gb1 hg w5 hbox hb;have BKgb1:=Am (hbox);have GE1:=gW_ hg;replace HB:=hb_ hb;clear hb hbox hg;obtain ⟨hcz1_0,hcz1_1,hcz1_2,hcz1_3,hcz1_4,hcz1_5,hcz1_6,hcz1_7,hfz1_0,hfz1_1,hfz1_2,hfz1_3,hfz1_4,hfz1_5,hfz1_6,hfz1_7⟩:=k8 BKgb1.out) | ((with_reducible refine gate_dst (N:=3) rfl ?_);refine bxA 3 #[.int .i64 0,.int .i64 0,.int .i64 0,.int .i64 0,.int .i64 0,.int .i64 0,.int .i64 0,.int .i64 0] 73 ?_;intro gb2 hg w6 hbox hb;have BKgb2:=Am (hbox);have GE2:=gW_ hg;replace HB:=hb_ hb;clear hb hbox hg;have hcy0 : w6.cell? ⟨gb2,0,none⟩ = some (.int .i64 0):=(blk_cell BKgb2.out 0).trans rfl;have hcy1 : w6.cell? ⟨gb2,1,none⟩ = some (.int .i64 0):=(blk_cell BKgb2.out 1).trans rfl;have hcy2 : w6.cell? ⟨gb2,2,none⟩ = some (.int .i64 0):=(blk_cell BKgb2.out 2).trans rfl;have hcy3 : w6.cell? ⟨gb2,3,none⟩ = some (.int .i64 0):=(blk_cell BKgb2.out 3).trans rfl;have hcy4 : w6.cell? ⟨gb2,4,none⟩ = some (.int .i64 0):=(blk_cell BKgb2.out 4).trans rfl;have hcy5 : w6.cell? ⟨gb2,5,none⟩ = some (.int .i64 0):=(blk_cell BKgb2.out 5).trans rfl;have hcy6 : w6.cell? ⟨gb2,6,none⟩ = some (.int .i64 0):=(blk_cell BKgb2.out 6).trans rfl;have hcy7 : w6.cell? ⟨gb2,7,none⟩ = some (.int .i64 0):=(blk_cell BKgb2.out 7).trans rfl;have hfy0:=blk_frozen BKgb2.out 0;have hfy1:=blk_frozen BKgb2.out 1;have hfy2:=blk_frozen BKgb2.out 2;have hfy3:=blk_frozen BKgb2.out 3;have hfy4:=blk_frozen BKgb2.out 4;have hfy5:=blk_frozen BKgb2.out 5;have hfy6:=blk_frozen BKgb2.out 6;have hfy7:=blk_frozen BKgb2.out 7))
 have HB1:=Am (show Below w.heap.size w _ from bA (W:=((((((((w6.setCell ⟨gb2,0,none⟩ (.int .i64 a0)).setCell ⟨gb2,1,none⟩ (.int .i64 a1)).setCell ⟨gb2,2,none⟩ (.int .i64 a2)).setCell ⟨gb2,3,none⟩ (.int .i64 a3)).setCell ⟨gb2,4,none⟩ (.int .i64 a4)).setCell ⟨gb2,5,none⟩ (.int .i64 a5)).setCell ⟨gb2,6,none⟩ (.int .i64 a6)).setCell ⟨gb2,7,none⟩ (.int .i64 a7))));clear HB;have HB:=HB1;clear HB1;generalize ((((((((w6.setCell ⟨gb2,0,none⟩ (.int .i64 a0)).setCell ⟨gb2,1,none⟩ (.int .i64 a1)).setCell ⟨gb2,2,none⟩ (.int .i64 a2)).setCell ⟨gb2,3,none⟩ (.int .i64 a3)).setCell ⟨gb2,4,none⟩ (.int .i64 a4)).setCell ⟨gb2,5,none⟩ (.int .i64 a5)).setCell ⟨gb2,6,none⟩ (.int .i64 a6)).setCell ⟨gb2,7,none⟩ (.int .i64 a7)) = w7 at HB ⊢;refine wp_loop_rounds 5 ?_;rw [rounds_succ];go_wp2_with fail
 refine (config_asked_ranges.calls k a0 a1 a2 a3 a4 a5 a6 a7 0 _ A0.out).mono ?_;rintro e w20 ⟨rfl,hb⟩;replace HB:=hb_ hb;clear hb;go_wp2_with fail
 rw [rounds_succ];go_wp2_with fail
 refine (config_asked_usage.calls a0 a1 a2 a3 a4 a5 a6 a7 0 _ A1.out).mono ?_;rintro e w21 ⟨rfl,hb⟩;replace HB:=hb_ hb;clear hb;go_wp2_with fail
 rw [rounds_succ];go_wp2_with fail
 refine (config_asked_scale.calls a0 a1 a2 a3 a4 a5 a6 a7 0 _ A2.out).mono ?_;rintro e w22 ⟨rfl,hb⟩;replace HB:=hb_ hb;clear hb;go_wp2_with fail
 rw [rounds_succ];go_wp2_with fail
 refine (config_asked_off.calls a0 a1 a2 a3 a4 a5 a6 a7 0 _ A3.out).mono ?_;rintro e w23 ⟨rfl,hb⟩;replace HB:=hb_ hb;clear hb;go_wp2_with fail
 rw [rounds_succ];go_wp2;go_ret;exact eA
theorem config_Check.calls (k : Nat) (a0 a1 a2 a3 a4 a5 a6 a7 r : Int) (w : World) (h : config_Check.f k a0 a1 a2 a3 a4 a5 a6 a7 = some r) :
  Calls Tryz.prog 16 #[.agg #[.int .i64 a0,.int .i64 a1,.int .i64 a2,.int .i64 a3,.int .i64 a4,.int .i64 a5,.int .i64 a6,.int .i64 a7]] w fun e w' => e = .returned (.int .i64 r) ∧ Below w.heap.size w w':=by
 unfold config_Check.f at h;obtain ⟨e1,h1,h⟩:=Option.bind_eq_some_iff.mp h
 by_cases c1 : e1 = 0
 ·rw [if_pos c1] at h;subst c1;obtain ⟨e2,h2,h⟩:=Option.bind_eq_some_iff.mp h
  by_cases c2 : e2 = 0
  ·rw [if_pos c2] at h;subst c2;obtain ⟨e3,h3,h⟩:=Option.bind_eq_some_iff.mp h
   by_cases c3 : e3 = 0
   ·rw [if_pos c3] at h;subst c3
    by_cases c4 : r = 0
    ·subst c4;exact config_Check.walk4 k a0 a1 a2 a3 a4 a5 a6 a7 w ⟨h1⟩ ⟨h2⟩ ⟨h3⟩ ⟨h⟩
    ·exact config_Check.walk3 k a0 a1 a2 a3 a4 a5 a6 a7 r w ⟨h1⟩ ⟨h2⟩ ⟨h3⟩ ⟨h⟩ (bne_iff_ne.mpr c4)
   ·rw [if_neg c3] at h;obtain rfl:=oI h;exact config_Check.walk2 k a0 a1 a2 a3 a4 a5 a6 a7 _ w ⟨h1⟩ ⟨h2⟩ ⟨h3⟩ (bne_iff_ne.mpr c3)
  ·rw [if_neg c2] at h;obtain rfl:=oI h;exact config_Check.walk1 k a0 a1 a2 a3 a4 a5 a6 a7 _ w ⟨h1⟩ ⟨h2⟩ (bne_iff_ne.mpr c2)
 ·rw [if_neg c1] at h;obtain rfl:=oI h;exact config_Check.walk0 k a0 a1 a2 a3 a4 a5 a6 a7 _ w ⟨h1⟩ (bne_iff_ne.mpr c1)

def wide_Shr.f (a0_0 : Int) (a0_1 : Int) (a1 : Int) : Option (Int × Int):=if a1 ≤ 0 then (some (a0_0,a0_1)) else (if a1 < 64 then (if 0 ≤ a1 then (if 0 ≤ (wrap64 (64 - a1)) then (some (shr .u64 a0_0 a1,Go.bits .or .u64 (shr .u64 a0_1 a1) (shl .u64 a0_0 (wrap64 (64 - a1))))) else (none)) else (none)) else (if a1 < 128 then (if 0 ≤ (wrap64 (a1 - 64)) then (some (0,shr .u64 a0_0 (wrap64 (a1 - 64)))) else (none)) else (some (0,0))))
def wide_Shr.T4 : Bool × List (List Nat × List Nat):=(true,[([],[]),([0],[0]),([],[]),([1,2],[1,2]),([],[]),([4],[4]),([],[]),([5,6],[5,6]),([],[]),([8],[8]),([],[]),([10],[10]),([9,11],[9,11]),([7,12],[7,12]),([3,13],[3,13]),([14,0,1,2,3,4,5,6,7,8,9,10,11,12,13,14],[14])])
def wide_Shr.B4 : List Nat:=[0,1,0,7,0,16,0,112,0,256,0,1024,3840,8176,16383,32767]
theorem wide_Shr.tab4 : rtab .any (opsOf Tryz.f31 4) = wide_Shr.T4:=by kernel_rfl
theorem wide_Shr.bits4 : waitsOk wide_Shr.T4.2 wide_Shr.B4 = true:=by kernel_rfl
theorem wide_Shr.calls (a0_0 : Int) (a0_1 : Int) (a1 : Int) (r1 : Int) (r2 : Int) (w : World) (h : wide_Shr.f a0_0 a0_1 a1 = some (r1,r2)) :
  Calls Tryz.prog 31 #[.agg #[.int .u64 a0_0,.int .u64 a0_1],.int .i64 a1] w fun e w' => e = .returned (.agg #[.int .u64 r1,.int .u64 r2]) ∧ Below w.heap.size w w':=by
 have hu66:=Tryz.underlying66;have HB:=Am (Below.refl w.heap.size w);have H : (if a1 ≤ 0 then (some (a0_0,a0_1)) else (if a1 < 64 then (if 0 ≤ a1 then (if 0 ≤ (wrap64 (64 - a1)) then (some (shr .u64 a0_0 a1,Go.bits .or .u64 (shr .u64 a0_1 a1) (shl .u64 a0_0 (wrap64 (64 - a1))))) else (none)) else (none)) else (if a1 < 128 then (if 0 ≤ (wrap64 (a1 - 64)) then (some (0,shr .u64 a0_0 (wrap64 (a1 - 64)))) else (none)) else (some (0,0))))) = some (r1,r2):=h;clear h
 by_cases c3 : a1 ≤ 0
 ·rw [if_pos c3] at H;have c3b0 : decide (a1 ≤ 0) = true:=dT c3;clear c3;simp only [Option.some.injEq,Prod.mk.injEq] at H;obtain ⟨rfl,rfl⟩:=H;go_enter Tryz.func31,Tryz.ntmps31;go_wp2_with (first | ((with_reducible refine gate_dst (N:=2) rfl ?_);refine bxA 2 #[.int .u64 a0_0,.int .u64 a0_1] 66 ?_;intro gb204 hg w4 hbox hb;have BK204:=Am (hbox);have GW204:=gW_ hg;have GE204:=gW_ hg;replace HB:=hb_ hb;clear hb hbox hg) | ((with_reducible refine gate_dst (N:=4) rfl ?_);refine bxA 4 #[.int .u64 0,.int .u64 0] 66 ?_;intro gb205 hg w5 hbox hb;have BK205:=Am (hbox);have GW205:=gW_ hg;have GE205:=gW_ hg;have NB204_205:=nA_ (g:=gb204) hg;have NB205_204:=nB_ (g:=gb204) hg;replace BK204:=kb_ (g:=gb204) hb;replace HB:=hb_ hb;clear hb hbox hg;have hnb6:=NB204_205.out;have hnc6:=NB205_204.out;obtain ⟨hcz7_0,hcz7_1,hfz7_0,hfz7_1⟩:=k2 BK204.out;obtain ⟨hcz8_0,hcz8_1,hfz8_0,hfz8_1⟩:=k2 BK205.out))
  refine bodyPost_ret (results_cell_row rfl _ _ gb205 66 #[.int .u64 a0_0,.int .u64 a0_1] (0,0) _ rfl (by (with_reducible repeat (first | refine b1 ?_ _ | refine b2 ?_ | refine b3 ?_ _));refine blk_put (cs:=#[.int .u64 a0_0,.int .u64 0]) ?_ 1 _ rfl;(with_reducible repeat (first | refine b1 ?_ _ | refine b2 ?_ | refine b3 ?_ _));refine blk_put (cs:=#[.int .u64 0,.int .u64 0]) ?_ 0 _ rfl;exact kA) Tryz.underlying66 rfl (by kernel_rfl)) rfl ?_;exact eA
 ·rw [if_neg c3] at H;have c3b0 : decide (a1 ≤ 0) = false:=dF c3;clear c3
  by_cases c9 : a1 < 64
  ·rw [if_pos c9] at H;have c9b0 : decide (a1 < 64) = true:=dT c9;clear c9
   by_cases c10 : 0 ≤ a1
   ·rw [if_pos c10] at H;have c10b0:=eq_true c10;have c10b1 : decide (0 ≤ a1) = true:=dT c10;clear c10;obtain ⟨ji11,hji11⟩ : ∃ j_ : Int,(shr .u64 a0_0 a1) = j_:=⟨_,rfl⟩;replace H : (if 0 ≤ (wrap64 (64 - a1)) then (some (ji11,Go.bits .or .u64 (shr .u64 a0_1 a1) (shl .u64 a0_0 (wrap64 (64 - a1))))) else (none)) = some (r1,r2):=by first | (rw [hji11] at H;exact H) | (simp only [hji11] at H ⊢;exact H)
    have hji11_ : (a0_0 / 2 ^ min a1.toNat 64) = ji11:=hji11;have hji11z : a1 ≤ 64 → (a0_0 / 2 ^ a1.toNat) = ji11:=shr_small hji11;have c12b0:=eq_true (of_decide_eq_true (by first | (with_reducible assumption) | assumption) : 0 ≤ a1);obtain ⟨ji13,hji13⟩ : ∃ j_ : Int,(shr .u64 a0_1 a1) = j_:=⟨_,rfl⟩;replace H : (if 0 ≤ (wrap64 (64 - a1)) then (some (ji11,Go.bits .or .u64 (ji13) (shl .u64 a0_0 (wrap64 (64 - a1))))) else (none)) = some (r1,r2):=by first | (rw [hji13] at H;exact H) | (simp only [hji13] at H ⊢;exact H)
    have hji13_ : (a0_1 / 2 ^ min a1.toNat 64) = ji13:=hji13;have hji13z : a1 ≤ 64 → (a0_1 / 2 ^ a1.toNat) = ji13:=shr_small hji13;obtain ⟨ji14,hji14⟩ : ∃ j_ : Int,(wrap64 (64 - a1)) = j_:=⟨_,rfl⟩;replace H : (if 0 ≤ (ji14) then (some (ji11,Go.bits .or .u64 (ji13) (shl .u64 a0_0 (ji14)))) else (none)) = some (r1,r2):=by first | (rw [hji14] at H;exact H) | (simp only [hji14] at H ⊢;exact H)
    have hji14w : (IntKind.i64.wrap (64 - a1)) = ji14:=(i64_w _).trans hji14
    by_cases c15 : 0 ≤ (ji14)
    ·rw [if_pos c15] at H;have c15b0:=eq_true c15;have c15b1 : decide (0 ≤ (ji14)) = true:=dT c15;clear c15;obtain ⟨ji16,hji16⟩ : ∃ j_ : Int,(shl .u64 a0_0 (ji14)) = j_:=⟨_,rfl⟩;replace H : (some (ji11,Go.bits .or .u64 (ji13) (ji16))) = some (r1,r2):=by first | (rw [hji16] at H;exact H) | (simp only [hji16] at H ⊢;exact H)
     have hji16_ : (IntKind.u64.wrap (a0_0 * 2 ^ min (ji14).toNat 64)) = ji16:=hji16;have hji16z : (ji14) ≤ 64 → (IntKind.u64.wrap (a0_0 * 2 ^ (ji14).toNat)) = ji16:=shl_small hji16;simp only [Option.some.injEq,Prod.mk.injEq] at H;obtain ⟨rfl,rfl⟩:=H;go_enter Tryz.func31,Tryz.ntmps31
     try go_wp2_with (first | ((with_reducible refine gate_dst (N:=2) rfl ?_);refine bxA 2 #[.int .u64 a0_0,.int .u64 a0_1] 66 ?_;intro gb204 hg w17 hbox hb;have BK204:=Am (hbox);have GW204:=gW_ hg;have GE204:=gW_ hg;replace HB:=hb_ hb;clear hb hbox hg) | ((with_reducible refine gate_dst (N:=4) rfl ?_);refine bxA 4 #[.int .u64 0,.int .u64 0] 66 ?_;intro gb205 hg w18 hbox hb;have BK205:=Am (hbox);have GW205:=gW_ hg;have GE205:=gW_ hg;have NB204_205:=nA_ (g:=gb204) hg;have NB205_204:=nB_ (g:=gb204) hg;replace BK204:=kb_ (g:=gb204) hb;replace HB:=hb_ hb;clear hb hbox hg))
     replace BK204:=Am (blk_drew BK204.out);replace BK205:=Am (blk_drew BK205.out);replace HB:=Am (below_drew1 HB.out);refine start_ (n:=16) (S:=fun w' => w'.cell? ⟨gb204,0,none⟩ = some (.int .u64 a0_0) ∧ w'.cell? ⟨gb204,1,none⟩ = some (.int .u64 a0_1)) (ds:=[]) #[nn,nn,nn,nn,nn,nn,nn,nn,nn,nn,nn,nn,nn,nn,nn,nn] (by kernel_rfl) rfl rfl (q2 BK204.out) (fun hHeld => ?_);refine with_tabW wide_Shr.tab4 wide_Shr.bits4 (fun HT_ HW_ => ?_);generalize w18.drew = w19 at BK204 BK205 HB hHeld ⊢;refine pu_ 0 (some 12) (bm 16 1) (any_of HT_.out (by kernel_rfl)) ?_;refine pu_ 2 (some 14) (bm 16 5) (any_of HT_.out (by kernel_rfl)) ?_;refine pu_ 4 (some 16) (bm 16 21) (any_of HT_.out (by kernel_rfl)) ?_;refine pu_ 6 (some 18) (bm 16 85) (any_of HT_.out (by kernel_rfl)) ?_;refine pu_ 8 (some 20) (bm 16 341) (any_of HT_.out (by kernel_rfl)) ?_;refine pu_ 10 (some 22) (bm 16 1365) (any_of HT_.out (by kernel_rfl)) ?_;refine pu_ 11 (some 23) (bm 16 3413) (any_of HT_.out (by kernel_rfl)) ?_;refine tk_ 1 (some 13) (bm 16 3415) (take_ofW HT_.out HW_.out (by kernel_rfl)) hHeld ?_;refine pu_ 3 (some 15) (bm 16 3423) (any_of HT_.out (by kernel_rfl)) ?_;refine tk_ 5 (some 17) (bm 16 3455) (take_ofW HT_.out HW_.out (by kernel_rfl)) hHeld ?_;refine pu_ 7 (some 19) (bm 16 3583) (any_of HT_.out (by kernel_rfl)) ?_;refine tk_ 9 (some 21) (bm 16 4095) (take_ofW HT_.out HW_.out (by kernel_rfl)) hHeld ?_;refine pu_ 12 (some 24) (bm 16 8191) (any_of HT_.out (by kernel_rfl)) ?_;refine pu_ 13 (some 25) (bm 16 16383) (any_of HT_.out (by kernel_rfl)) ?_;refine pu_ 14 (some 26) (bm 16 32767) (any_of HT_.out (by kernel_rfl)) ?_;refine one_ (i:=15) (N:=none) (bm 16 65535) rfl rfl (one_of HT_.out (by kernel_rfl)) (by decide) (fun K hK => ?_);have hs20 : w19.cell? ⟨gb205,0,none⟩ = some (.int .u64 0):=(blk_cell BK205.out 0).trans rfl;have hfs20:=blk_frozen BK205.out 0;have hns20_0:=NB204_205.out;have hms20_0:=NB205_204.out;have hs21 : w19.cell? ⟨gb205,1,none⟩ = some (.int .u64 0):=(blk_cell BK205.out 1).trans rfl;have hfs21:=blk_frozen BK205.out 1;have hns21_0:=NB204_205.out;have hms21_0:=NB205_204.out;refine skip_ (w1:=?_) (by rfl) rfl ?_ ?_
     rotate_left
     ·go_simp;rfl
     refine hK.out _ _ ⟨((cell_far (p:=⟨gb205,_,none⟩) NB204_205.out _).trans (((cell_far (p:=⟨gb205,_,none⟩) NB204_205.out _).trans (hHeld.1)))),((cell_far (p:=⟨gb205,_,none⟩) NB204_205.out _).trans (((cell_far (p:=⟨gb205,_,none⟩) NB204_205.out _).trans (hHeld.2))))⟩ (fun hHeld => ?_);clear hK K;refine done_ (done_of HT_.out (by kernel_rfl)) ?_
     try go_wp2
     refine bodyPost_ret (results_cell_row rfl _ _ gb205 66 #[.int .u64 ji11,.int .u64 (Go.bits .or .u64 (ji13) (ji16))] (0,0) _ rfl (by (with_reducible repeat (first | refine b1 ?_ _ | refine b2 ?_ | refine b3 ?_ _));refine blk_put (cs:=#[.int .u64 ji11,.int .u64 0]) ?_ 1 _ rfl;(with_reducible repeat (first | refine b1 ?_ _ | refine b2 ?_ | refine b3 ?_ _));refine blk_put (cs:=#[.int .u64 0,.int .u64 0]) ?_ 0 _ rfl;exact kA) Tryz.underlying66 rfl (by kernel_rfl)) rfl ?_;exact ⟨by first | rfl | (simp [errW_none,errW_some] <;> rfl) | (simp only [← hji11,← hji13,← hji14,← hji16];first | rfl | (simp [errW_none,errW_some] <;> rfl)) | (simp [*,errW_none,errW_some] <;> rfl),bA⟩
    ·rw [if_neg c15] at H;exact absurd H (by simp)
   ·rw [if_neg c10] at H;exact absurd H (by simp)
  ·rw [if_neg c9] at H;have c9b0 : decide (a1 < 64) = false:=dF c9;clear c9
   by_cases c22 : a1 < 128
   ·rw [if_pos c22] at H;have c22b0 : decide (a1 < 128) = true:=dT c22;clear c22;obtain ⟨ji23,hji23⟩ : ∃ j_ : Int,(wrap64 (a1 - 64)) = j_:=⟨_,rfl⟩;replace H : (if 0 ≤ (ji23) then (some (0,shr .u64 a0_0 (ji23))) else (none)) = some (r1,r2):=by first | (rw [hji23] at H;exact H) | (simp only [hji23] at H ⊢;exact H)
    have hji23w : (IntKind.i64.wrap (a1 - 64)) = ji23:=(i64_w _).trans hji23
    by_cases c24 : 0 ≤ (ji23)
    ·rw [if_pos c24] at H;have c24b0:=eq_true c24;have c24b1 : decide (0 ≤ (ji23)) = true:=dT c24;clear c24;obtain ⟨ji25,hji25⟩ : ∃ j_ : Int,(shr .u64 a0_0 (ji23)) = j_:=⟨_,rfl⟩;replace H : (some (0,ji25)) = some (r1,r2):=by first | (rw [hji25] at H;exact H) | (simp only [hji25] at H ⊢;exact H)
     have hji25_ : (a0_0 / 2 ^ min (ji23).toNat 64) = ji25:=hji25;have hji25z : (ji23) ≤ 64 → (a0_0 / 2 ^ (ji23).toNat) = ji25:=shr_small hji25;simp only [Option.some.injEq,Prod.mk.injEq] at H;obtain ⟨rfl,rfl⟩:=H;go_enter Tryz.func31,Tryz.ntmps31;go_wp2_with (first | ((with_reducible refine gate_dst (N:=2) rfl ?_);refine bxA 2 #[.int .u64 a0_0,.int .u64 a0_1] 66 ?_;intro gb204 hg w26 hbox hb;have BK204:=Am (hbox);have GW204:=gW_ hg;have GE204:=gW_ hg;replace HB:=hb_ hb;clear hb hbox hg) | ((with_reducible refine gate_dst (N:=4) rfl ?_);refine bxA 4 #[.int .u64 0,.int .u64 0] 66 ?_;intro gb205 hg w27 hbox hb;have BK205:=Am (hbox);have GW205:=gW_ hg;have GE205:=gW_ hg;have NB204_205:=nA_ (g:=gb204) hg;have NB205_204:=nB_ (g:=gb204) hg;replace BK204:=kb_ (g:=gb204) hb;replace HB:=hb_ hb;clear hb hbox hg;have hnb28:=NB204_205.out;have hnc28:=NB205_204.out;obtain ⟨hcz29_0,hcz29_1,hfz29_0,hfz29_1⟩:=k2 BK204.out;obtain ⟨hcz30_0,hcz30_1,hfz30_0,hfz30_1⟩:=k2 BK205.out))
     refine bodyPost_ret (results_cell_row rfl _ _ gb205 66 #[.int .u64 0,.int .u64 ji25] (0,0) _ rfl (by (with_reducible repeat (first | refine b1 ?_ _ | refine b2 ?_ | refine b3 ?_ _));refine blk_put (cs:=#[.int .u64 0,.int .u64 0]) ?_ 1 _ rfl;(with_reducible repeat (first | refine b1 ?_ _ | refine b2 ?_ | refine b3 ?_ _));refine blk_put (cs:=#[.int .u64 0,.int .u64 0]) ?_ 0 _ rfl;exact kA) Tryz.underlying66 rfl (by kernel_rfl)) rfl ?_;exact ⟨by first | rfl | (simp [errW_none,errW_some] <;> rfl) | (simp only [← hji23,← hji25];first | rfl | (simp [errW_none,errW_some] <;> rfl)) | (simp [*,errW_none,errW_some] <;> rfl),bA⟩
    ·rw [if_neg c24] at H;exact absurd H (by simp)
   ·rw [if_neg c22] at H;have c22b0 : decide (a1 < 128) = false:=dF c22;clear c22;simp only [Option.some.injEq,Prod.mk.injEq] at H;obtain ⟨rfl,rfl⟩:=H;go_enter Tryz.func31,Tryz.ntmps31;go_wp2_with (first | ((with_reducible refine gate_dst (N:=2) rfl ?_);refine bxA 2 #[.int .u64 a0_0,.int .u64 a0_1] 66 ?_;intro gb204 hg w31 hbox hb;have BK204:=Am (hbox);have GW204:=gW_ hg;have GE204:=gW_ hg;replace HB:=hb_ hb;clear hb hbox hg) | ((with_reducible refine gate_dst (N:=4) rfl ?_);refine bxA 4 #[.int .u64 0,.int .u64 0] 66 ?_;intro gb205 hg w32 hbox hb;have BK205:=Am (hbox);have GW205:=gW_ hg;have GE205:=gW_ hg;have NB204_205:=nA_ (g:=gb204) hg;have NB205_204:=nB_ (g:=gb204) hg;replace BK204:=kb_ (g:=gb204) hb;replace HB:=hb_ hb;clear hb hbox hg;have hnb33:=NB205_204.out;have hnc33:=NB204_205.out;obtain ⟨hcz34_0,hcz34_1,hfz34_0,hfz34_1⟩:=k2 BK205.out))
    refine bodyPost_ret (results_cell_row rfl _ _ gb205 66 #[.int .u64 0,.int .u64 0] (0,0) _ rfl (by (with_reducible repeat (first | refine b1 ?_ _ | refine b2 ?_ | refine b3 ?_ _));refine blk_put (cs:=#[.int .u64 0,.int .u64 0]) ?_ 1 _ rfl;(with_reducible repeat (first | refine b1 ?_ _ | refine b2 ?_ | refine b3 ?_ _));refine blk_put (cs:=#[.int .u64 0,.int .u64 0]) ?_ 0 _ rfl;exact kA) Tryz.underlying66 rfl (by kernel_rfl)) rfl ?_;exact eA

end Go.Proofs.YtodibpddlibneaaGreatDoor.GSH
namespace Go.Proofs.YtodibpddlibneaaGreatDoor.Q
open Go.RowKit GSH YtodibpddlibneaaGreatDoorW.PrintWords YtodibpddlibneaaGreatDoorW.PrintLast YtodibpddlibneaaGreatDoorW.PrintMore
theorem wshr {h l : Int} (hh : U h) (hl : U l) (n : Nat) (h0 : 0 < n) (h1 : n < 64) : wide_Shr.f h l (n : Int) = some (shrV h l n):=by
  unfold wide_Shr.f shrV;rw [if_neg (by omega),if_pos (by omega),if_pos (by omega),wrap64_in (by omega) (by omega),if_pos (by omega)];rw [show (64 - (n : Int)) = ((64 - n : Nat) : Int) by omega,shr_at n (by omega),shr_at n (by omega),shl_at (64 - n) (by omega),or_comm_];have d:=div_lt_pow (x:=l) (64 - n) (by omega) hl;rw [show 64 - (64 - n) = n by omega] at d
  have:=pow_bd (64 - n) (by omega);rw [or_add (64 - n) (umod _) (emod_pow (64 - n) (by omega)) d.1 d.2 (by omega)]
theorem compare_ (a b : Int) : cmp_Compare_uint64.f a b = some (if a < b then -1 else if a > b then 1 else 0):=by
  unfold cmp_Compare_uint64.f cmp_isNaN_uint64.f;simp only [bne_self_eq_false,Option.bind_some,Bool.false_eq_true,if_false];split
  · rfl
  · split <;> rfl
theorem wcmp {ah al bh bl : Int} (h2 : U al) (h4 : U bl) : wide_Cmp.f ah al bh bl = some (cmpV (V ah al) (V bh bl)):=by
  unfold wide_Cmp.f cmpV V;rw [compare_,compare_];simp only [Option.bind_some];obtain ⟨h2a,h2b⟩:=h2;obtain ⟨h4a,h4b⟩:=h4
  by_cases e : ah = bh
  · rw [if_pos e]
    congr 1
    by_cases c : al < bl
    · rw [if_pos c,if_pos (show ah * 18446744073709551616 + al < bh * 18446744073709551616 + bl by omega)]
    · rw [if_neg c,if_neg (show ¬ ah * 18446744073709551616 + al < bh * 18446744073709551616 + bl by omega)]
      by_cases d : al > bl
      · rw [if_pos d,if_neg (show ¬ ah * 18446744073709551616 + al = bh * 18446744073709551616 + bl by omega)]
      · rw [if_neg d,if_pos (show ah * 18446744073709551616 + al = bh * 18446744073709551616 + bl by omega)]
  · rw [if_neg e]
    congr 1
    by_cases c : ah < bh
    · rw [if_pos c,if_pos (show ah * 18446744073709551616 + al < bh * 18446744073709551616 + bl by omega)]
    · rw [if_neg c,if_neg (show ¬ ah * 18446744073709551616 + al < bh * 18446744073709551616 + bl by omega),if_pos (show ah > bh by omega),if_neg (show ¬ ah * 18446744073709551616 + al = bh * 18446744073709551616 + bl by omega)]
theorem mul64 {a b : Int} (ha : U a) (hb : U b) : bits_Mul64.f a b = some (a * b / 18446744073709551616,a * b % 18446744073709551616):=by
  unfold bits_Mul64.f;have e:=mul_halves a b;obtain ⟨a0,a1⟩:=ha;obtain ⟨b0,b1⟩:=hb;rw [and32 ⟨a0,a1⟩,and32 ⟨b0,b1⟩];have p1:=half_bd (x:=a / 4294967296) (y:=b / 4294967296) (by omega) (by omega) (by omega) (by omega);have p2:=half_bd (x:=a / 4294967296) (y:=b % 4294967296) (by omega) (by omega) (by omega) (by omega);have p3:=half_bd (x:=a % 4294967296) (y:=b / 4294967296) (by omega) (by omega) (by omega) (by omega);have p4:=half_bd (x:=a % 4294967296) (y:=b % 4294967296) (by omega) (by omega) (by omega) (by omega);generalize (a / 4294967296) * (b / 4294967296) = x1 at *;generalize (a / 4294967296) * (b % 4294967296) = x2 at *;generalize (a % 4294967296) * (b / 4294967296) = x3 at *;generalize (a % 4294967296) * (b % 4294967296) = x4 at *;generalize a * b = y at *;rw [w64_in (x:=x4) (by omega) (by omega),w64_in (x:=x2) (by omega) (by omega),w64_in (x:=x3) (by omega) (by omega),w64_in (x:=x1) (by omega) (by omega)];rw [w64_in (x:=x2 + x4 / 4294967296) (by omega) (by omega),and32 (x:=x2 + x4 / 4294967296) ⟨by omega,by omega⟩];simp only [w64]
  congr 2
  omega
theorem wmul {a b : Int} (ha : U a) (hb : U b) : wide_Mul.f a b = some (a * b / 18446744073709551616,a * b % 18446744073709551616):=by
  unfold wide_Mul.f;rw [mul64 ha hb];rfl
end Go.Proofs.YtodibpddlibneaaGreatDoor.Q
namespace Go.Proofs.YtodibpddlibneaaGreatDoor.Q
def rungsN : List Nat:=[13043817825332782212,15511800964685064948,16915738899553466670,17664662643191237676,18051468387014017850,18248035989933441396,18347121020861646923,18396865112328554660,18421787711448657617,18434261669329232139,18440501815349552981,18443622680442407997,18445183311048607331,18445963675871538003,18446353870663572144,18446548971154807801,18446646522174239824,18446695297877410578,18446719685777359790,18446731879739425373,18446737976723480911,18446741025216264367,18446742549462845017,18446743311586182573,18446743692647863158,18446743883178706403,18446743978444128763,18446744026076840128,18446744049893195856,18446744061801373732,18446744067755462673,18446744070732507144]
/-- The rung of bit d of the exponent's 32 bits behind the point. -/
def rung (d : Nat) : Nat:=rungsN.getD (31 - d) 0
abbrev BB : Nat:=18446744073709551616
def bit (e d : Nat) : Nat:=e / 2 ^ d % 2
/-- What the lowest d bits of e leave of t. -/
def hgo : Nat → Nat → Nat → Nat
  | 0,_,t => t
  | d + 1,e,t => if bit e d = 0 then hgo d e t else hgo d e (t * rung d / BB)
/-- A bit's factor,by BB. -/
def fac (e d : Nat) : Nat:=if bit e d = 0 then BB else rung d
/-- All ones. -/
def OO : Nat → Nat
  | 0 => 1
  | d + 1 => rung d * OO d
theorem rung_le : ∀ d : Fin 32,rung d.val < BB ∧ 13043817825332782212 ≤ rung d.val:=by decide +kernel
theorem rung_lt {d : Nat} (h : d < 32) : rung d < BB:=(rung_le ⟨d,h⟩).1
theorem hgo_le {e : Nat} : ∀ {d : Nat} {t : Nat},d ≤ 32 → hgo d e t ≤ t
  | 0,_,_ => Nat.le_refl _
  | d + 1,t,h => by
    rw [hgo];split
    · exact hgo_le (by omega)
    · refine Nat.le_trans (hgo_le (by omega)) ?_
      apply Nat.div_le_of_le_mul;rw [Nat.mul_comm BB];exact Nat.mul_le_mul_left _ (Nat.le_of_lt (rung_lt (by omega)))
/-- A bit more is not less than all that follow. -/
theorem bit_lt (e d : Nat) : bit e d < 2:=Nat.mod_lt _ (by decide)
def gg (e : Nat) : Nat:=hgo 32 e 9223372036854775808
def HH (e : Nat) : Nat:=if e / 4294967296 ≥ 63 then 0 else gg e / 2 ^ (e / 4294967296)
theorem gg_le (e : Nat) : gg e ≤ 9223372036854775808:=hgo_le (by decide)
theorem HH_le (e : Nat) : HH e ≤ 9223372036854775808:=by
  unfold HH;split
  · omega
  · exact Nat.le_trans (Nat.div_le_self _ _) (gg_le e)
end Go.Proofs.YtodibpddlibneaaGreatDoor.Q
namespace Go.Proofs.YtodibpddlibneaaGreatDoor.GSH
open Go.RowKit YtodibpddlibneaaGreatDoorW.PrintWords YtodibpddlibneaaGreatDoorW.PrintLast YtodibpddlibneaaGreatDoorW.PrintMore
attribute [local go_sem] max2_int min2_int max_two min_two max_three min_three max_four min_four   -- for this text's walks alone
set_option linter.unusedVariables false
set_option linter.unusedSimpArgs false
def share_part.f (k : Nat) (a0 : Int) (a1 : Int) (a2 : Int) : Option (Int):=(wide_Mul.f a0 a1).bind fun bt228 => ((wide_Div.f k bt228.1 bt228.2 a2).bind fun bt230 => (some bt230.2.1))
theorem share_part.calls (k : Nat) (a0 : Int) (a1 : Int) (a2 : Int) (r : Int) (w : World) (h : share_part.f k a0 a1 a2 = some r) :
  Calls Tryz.prog 73 #[.int .u64 a0,.int .u64 a1,.int .u64 a2] w fun e w' => e = .returned (.int .u64 r) ∧ Below w.heap.size w w':=by
 have hu66:=Tryz.underlying66;have HB:=Am (Below.refl w.heap.size w);have H : ((wide_Mul.f a0 a1).bind fun bt228 => ((wide_Div.f k bt228.1 bt228.2 a2).bind fun bt230 => (some bt230.2.1))) = some r:=h;clear h;obtain ⟨⟨t228,t229⟩,A4,H⟩:=bnd H;(try dsimp only at H);obtain ⟨⟨t230,t231,t232,t233⟩,A5,H⟩:=bnd H;(try dsimp only at H);obtain rfl:=oI H;go_enter Tryz.func73,Tryz.ntmps73;go_wp2_with (first | ((with_reducible refine gate_callee (f:=32) rfl ?_);refine goesL_ (some 13) rfl rfl Tryz.func32 (by kernel_rfl) rfl #[.int .u64 a0,.int .u64 a1] rfl aA ?_;(with_reducible refine (wide_Mul.calls a0 a1 t228 t229 _ A4.out).mono ?_);rintro e w6 ⟨rfl,hb⟩;refine ⟨_,rfl,?_⟩;replace HB:=hb_ hb;(try clear hb)) | ((with_reducible refine gate_callee (f:=78) rfl ?_);refine goesL_ (some 15) rfl rfl Tryz.func78 (by kernel_rfl) rfl #[.agg #[.int .u64 t228,.int .u64 t229],.int .u64 a2] rfl aA ?_;(with_reducible refine (wide_Div.calls k t228 t229 a2 t230 t231 t232 t233 _ A5.out).mono ?_);rintro e w7 ⟨rfl,hb⟩;refine ⟨_,rfl,?_⟩;replace HB:=hb_ hb;(try clear hb)) | ((with_reducible refine gate_dst (N:=7) rfl ?_);refine bxA 7 #[.int .u64 0,.int .u64 0] 66 ?_;intro gb234 hg w8 hbox hb;have BK234:=Am (hbox);have GW234:=gW_ hg;have GE234:=gW_ hg;replace HB:=hb_ hb;clear hb hbox hg;obtain ⟨hcz9_0,hcz9_1,hfz9_0,hfz9_1⟩:=k2 BK234.out))
 go_ret;exact eA



def ladder_Half.go : Nat → Int → Int → Option Int
 | 0,_,t => some t
 | d + 1,e,t => if Go.bits .and .u64 e (IntKind.u64.wrap (2 ^ d)) = 0 then ladder_Half.go d e t else (wide_Mul.f t (rd rungsL ((31 - d : Nat) : Int))).bind fun p => ladder_Half.go d e p.1
/-- One half to the power of e / 2^32. -/
def ladder_Half.f (a0 : Int) : Option Int:=if a0 / 4294967296 ≥ 63 then some 0 else (if 0 ≤ a0 then (ladder_Half.go 32 a0 9223372036854775808).bind fun t => some (t / 2 ^ (a0 / 4294967296).toNat) else none)
theorem ladder_Half.calls (a0 : Int) (r : Int) (w : World) (hL : LaidW w) (h : ladder_Half.f a0 = some r) :
  Calls Tryz.prog 40 #[.int .u64 a0] w fun e w' => e = .returned (.int .u64 r) ∧ Below w.heap.size w w':=by
 have hfd : ∀ (x y : Int) (W : World),(Instr.field 66 (.agg #[.int .u64 x,.int .u64 y]) 0).run Tryz.prog W = .ok (.int .u64 x) W:=by intros;kernel_rfl
 have HB:=Am (Below.refl w.heap.size w);have H : (if a0 / 4294967296 ≥ 63 then some 0 else (if 0 ≤ a0 then (ladder_Half.go 32 a0 9223372036854775808).bind fun t => some (t / 2 ^ (a0 / 4294967296).toNat) else none)) = some r:=h;clear h
 by_cases c2 : a0 / 4294967296 ≥ 63
 ·rw [if_pos c2] at H;have c2b0 : decide (63 ≤ (a0 / 4294967296)) = true:=dT c2;clear c2;obtain rfl:=oI H;go_enter Tryz.func40,Tryz.ntmps40;go_wp2;go_ret;exact ⟨rfl,bA⟩
 ·rw [if_neg c2] at H
  by_cases c3 : 0 ≤ a0
  ·rw [if_pos c3] at H;have c2b0 : decide (63 ≤ (a0 / 4294967296)) = false:=dF c2;have q0 : 0 ≤ a0 / 4294967296:=by omega
   have q1 : a0 / 4294967296 ≤ 62:=by omega
   clear c2;obtain ⟨t,A30,H⟩:=Option.bind_eq_some_iff.mp H;have A3:=Am A30;clear A30;have H':=Am (oI H);clear H;go_enter Tryz.func40,Tryz.ntmps40;go_wp2;go_loopg [4,10] 32 (fun kq v4 v10 w' => ∃ (x4 : Int) (j : Nat),v4 = .int .u64 x4 ∧ v10 = .int .i64 (j : Int) ∧ Aside0 (j + kq = 32) ∧ j ≤ 32 ∧ Aside0 (ladder_Half.go kq a0 x4 = some t) ∧ Aside0 (Below w.heap.size w w'))
   case atStart => exact ⟨9223372036854775808,0,rfl,rfl,⟨rfl⟩,by omega,A3,⟨bA⟩⟩
   case round =>
    obtain ⟨x4,j,rfl,rfl,HD,hj,HA,HB⟩:=hrel
    cases gk with
    | zero =>
     have HD:=HD.out;have hx : x4 = t:=oI HA.out;subst hx;obtain rfl : j = 32:=by omega
     clear HD;go_wp2;go_ret;exact ⟨by rw [← H'.out];rfl,bA⟩
    | succ d =>
     have HD1:=HD.out;have hj31 : j ≤ 31:=by omega
     have hlt : decide ((j : Int) < 32) = true:=dT (by omega);obtain rfl : d = 31 - j:=by omega
     have hc : wr.cell? ⟨0,j,none⟩ = some (.int .u64 (rd rungsL (j : Int))):=laid_below hL HB.out j (by omega);have H:=HA.out;clear HA HD1 HD;simp only [ladder_Half.go] at H;rw [show 31 - (31 - j) = j by omega] at H
     by_cases c5 : Go.bits .and .u64 a0 (IntKind.u64.wrap (2 ^ (31 - j))) = 0
     ·rw [if_pos c5] at H;have c5b1 : (Go.bits .and .u64 a0 (IntKind.u64.wrap (2 ^ (31 - j))) != 0) = false:=bne_eq_false_iff_eq.mpr c5;clear c5;have H2:=Am H;clear H;go_wp2;go_roundg (31 - j)
      case measure => omega
      case rel => exact ⟨x4,j + 1,rfl,by go_num,⟨by omega⟩,by omega,H2,⟨bA⟩⟩
     ·rw [if_neg c5] at H;have c5b1 : (Go.bits .and .u64 a0 (IntKind.u64.wrap (2 ^ (31 - j))) != 0) = true:=bne_iff_ne.mpr c5;clear c5;obtain ⟨⟨p1,p2⟩,A130,H⟩:=Option.bind_eq_some_iff.mp H;have A13:=Am A130;have H2:=Am H;clear A130 H;go_wp2_with (first | ((with_reducible refine gate_callee (f:=32) rfl ?_);refine goesL_ (some 23) rfl rfl Tryz.func32 (by kernel_rfl) rfl #[.int .u64 x4,.int .u64 (rd rungsL (j : Int))] rfl aA ?_;(with_reducible refine (wide_Mul.calls x4 (rd rungsL (j : Int)) p1 p2 _ A13.out).mono ?_);rintro e w15 ⟨rfl,hb⟩;refine ⟨_,rfl,?_⟩;have n1_:=hb_ hb;clear HB;have HB:=n1_;clear n1_ hb hc))
      go_roundg (31 - j)
      case measure => omega
      case rel => exact ⟨p1,j + 1,rfl,by go_num,⟨by omega⟩,by omega,H2,⟨bA⟩⟩
  ·rw [if_neg c3] at H
   cases H

mutual
def share_exponent.j0 : Nat → Int → Int → Int → Option (Int)
 | 0,_,_,_ => none
 | k + 1,x0,x1,x2 => (wide_Mul.f x0 x2).bind fun bt241 => ((wide_Div.f k bt241.1 bt241.2 x1).bind fun bt243 => ((wide_Shr.f bt243.1 bt243.2.1 31).bind fun bt248 => (if bt243.2.2.1 > 0 then (share_exponent.j1 k true bt248.1 bt248.2) else (share_exponent.j1 k (decide ((IntKind.u64.wrap (bt243.2.1 * 8589934592)) > 0)) bt248.1 bt248.2))))
def share_exponent.j1 : Nat → Bool → Int → Int → Option (Int)
 | 0,_,_,_ => none
 | k + 1,x35,x251000,x251001 => if x35 = true then ((wide_Of.f 1).bind fun bt251 => ((wide_Add.f x251000 x251001 bt251.1 bt251.2).bind fun bt253 => (if bt253.1 > 0 then (some 18446744073709551615) else (some bt253.2.1)))) else (if x251000 > 0 then (some 18446744073709551615) else (some x251001))
end
def share_exponent.f (k : Nat) (a0 : Int) (a1 : Int) (a2 : Int) : Option (Int):=(wide_Mul.f a1 4096).bind fun bt236 => ((wide_Of.f a2).bind fun bt238 => ((wide_Cmp.f bt236.1 bt236.2 bt238.1 bt238.2).bind fun t240 => (if t240 < 0 then (share_exponent.j0 k a0 1 4096) else (share_exponent.j0 k a0 a1 a2))))
theorem share_exponent.calls (k : Nat) (a0 : Int) (a1 : Int) (a2 : Int) (r : Int) (w : World) (h : share_exponent.f k a0 a1 a2 = some r) :
  Calls Tryz.prog 41 #[.int .u64 a0,.int .u64 a1,.int .u64 a2] w fun e w' => e = .returned (.int .u64 r) ∧ Below w.heap.size w w':=by
 have hu66:=Tryz.underlying66;have HB:=Am (Below.refl w.heap.size w);have H : ((wide_Mul.f a1 4096).bind fun bt236 => ((wide_Of.f a2).bind fun bt238 => ((wide_Cmp.f bt236.1 bt236.2 bt238.1 bt238.2).bind fun t240 => (if t240 < 0 then (share_exponent.j0 k a0 1 4096) else (share_exponent.j0 k a0 a1 a2))))) = some r:=h;clear h;obtain ⟨⟨t236,t237⟩,A4,H⟩:=bnd H;(try dsimp only at H);obtain ⟨⟨t238,t239⟩,A5,H⟩:=bnd H;(try dsimp only at H);obtain ⟨t240,A6,H⟩:=bnd H;(try dsimp only at H);have HC7:=Am H;clear H;go_enter Tryz.func41,Tryz.ntmps41
 go_upto_if 16 with (first | ((with_reducible refine gate_callee (f:=32) rfl ?_);refine goesL_ (some 12) rfl rfl Tryz.func32 (by kernel_rfl) rfl #[.int .u64 a1,.int .u64 4096] rfl aA ?_;(with_reducible refine (wide_Mul.calls a1 4096 t236 t237 _ A4.out).mono ?_);rintro e w8 ⟨rfl,hb⟩;refine ⟨_,rfl,?_⟩;replace HB:=hb_ hb;(try clear hb)) | ((with_reducible refine gate_callee (f:=77) rfl ?_);refine goesL_ (some 14) rfl rfl Tryz.func77 (by kernel_rfl) rfl #[.int .u64 a2] rfl aA ?_;(with_reducible refine (wide_Of.calls a2 t238 t239 _ A5.out).mono ?_);rintro e w9 ⟨rfl,hb⟩;refine ⟨_,rfl,?_⟩;replace HB:=hb_ hb;(try clear hb)) | ((with_reducible refine gate_callee (f:=69) rfl ?_);refine goesL_ (some 15) rfl rfl Tryz.func69 (by kernel_rfl) rfl #[.agg #[.int .u64 t236,.int .u64 t237],.agg #[.int .u64 t238,.int .u64 t239]] rfl aA ?_;(with_reducible refine (wide_Cmp.calls t236 t237 t238 t239 t240 _ A6.out).mono ?_);rintro e w10 ⟨rfl,hb⟩;refine ⟨_,rfl,?_⟩;replace HB:=hb_ hb;(try clear hb)))
 (try simp only [Act.put,List.setIfInBounds_toArray,List.set_cons_zero,List.set_cons_succ])
 go_cut [1,2] (fun v1 v2 wc => ∃ (kq : Nat) (x1_6 : Int) (x2_6 : Int),v1 = .int .u64 x1_6 ∧ v2 = .int .u64 x2_6 ∧ Aside0 (share_exponent.j0 kq a0 x1_6 x2_6 = some r) ∧ Aside0 (kq ≤ k) ∧ Aside0 (Below w.heap.size w wc))
 case first =>
  have H:=HC7.out;clear HC7
  by_cases c11 : t240 < 0
  ·rw [if_pos c11] at H;have c11b0 : decide (t240 < 0) = true:=dT c11;clear c11
   (first | rw [c11b0] | (simp only [i64_w,i32_w];rw [c11b0]) | skip)
   have H':=Am H;clear H;go_wp2
   go_meet
   case rel => exact ⟨_,(1),(4096),(by first | rfl | (simp;done) | (simp [*];done)),(by first | rfl | (simp;done) | (simp [*];done)),H',⟨by first | omega | exact Nat.le_refl _⟩,⟨bA⟩⟩
  ·rw [if_neg c11] at H;have c11b0 : decide (t240 < 0) = false:=dF c11;clear c11
   (first | rw [c11b0] | (simp only [i64_w,i32_w];rw [c11b0]) | skip)
   have H':=Am H;clear H;go_wp2
   go_meet
   case rel => exact ⟨_,(a1),(a2),(by first | rfl | (simp;done) | (simp [*];done)),(by first | rfl | (simp;done) | (simp [*];done)),H',⟨by first | omega | exact Nat.le_refl _⟩,⟨bA⟩⟩
 case rest =>
  clear HC7
  try clear c1
  try clear p2
  try clear c3
  try clear c4
  try clear c6
  try clear c7
  try clear c11
  try clear c11b0
  obtain ⟨kq,x1_6,x2_6,rfl,rfl,HA,HJ6,HB⟩:=hcut
  cases kq with
  | zero => exact absurd HA.out (by simp [share_exponent.j0])
  | succ kj6 =>
   have H:=HA.out;clear HA;simp only [share_exponent.j0] at H;obtain ⟨⟨t241,t242⟩,A12,H⟩:=bnd H;(try dsimp only at H);obtain ⟨⟨t243,t244,t245,t246⟩,A13,H⟩:=bnd H;(try dsimp only at H);obtain ⟨⟨t248,t249⟩,A14,H⟩:=bnd H;(try dsimp only at H);have HC15:=Am H;clear H;go_upto_region 5 with (first | ((with_reducible refine gate_callee (f:=32) rfl ?_);refine goesL_ (some 20) rfl rfl Tryz.func32 (by kernel_rfl) rfl #[.int .u64 a0,.int .u64 x2_6] rfl aA ?_;(with_reducible refine (wide_Mul.calls a0 x2_6 t241 t242 _ A12.out).mono ?_);rintro e w16 ⟨rfl,hb⟩;refine ⟨_,rfl,?_⟩;replace HB:=hb_ hb;(try clear hb)) | ((with_reducible refine gate_callee (f:=78) rfl ?_);refine goesL_ (some 22) rfl rfl Tryz.func78 (by kernel_rfl) rfl #[.agg #[.int .u64 t241,.int .u64 t242],.int .u64 x1_6] rfl aA ?_;(with_reducible refine (wide_Div.calls kj6 t241 t242 x1_6 t243 t244 t245 t246 _ A13.out).mono ?_);rintro e w17 ⟨rfl,hb⟩;refine ⟨_,rfl,?_⟩;replace HB:=hb_ hb;(try clear hb)) | ((with_reducible refine gate_dst (N:=7) rfl ?_);refine bxA 7 #[.int .u64 0,.int .u64 0] 66 ?_;intro gb247 hg w18 hbox hb;have BK247:=Am (hbox);have GW247:=gW_ hg;have GE247:=gW_ hg;replace HB:=hb_ hb;clear hb hbox hg;obtain ⟨hcz19_0,hcz19_1,hfz19_0,hfz19_1⟩:=k2 BK247.out) | ((with_reducible refine gate_callee (f:=31) rfl ?_);refine goesL_ (some 27) rfl rfl Tryz.func31 (by kernel_rfl) rfl #[.agg #[.int .u64 t243,.int .u64 t244],.int .i64 31] rfl aA ?_;(with_reducible refine (wide_Shr.calls t243 t244 31 t248 t249 _ A14.out).mono ?_);rintro e w20 ⟨rfl,hb⟩;refine ⟨_,rfl,?_⟩;replace BK247:=Am (blk_below (g:=gb247) (o:=.cells #[.int .u64 t243,.int .u64 t244] 66 (0,0)) (by (with_reducible repeat (first | refine b1 ?_ _ | refine b2 ?_ | refine b3 ?_ _));refine blk_put (cs:=#[.int .u64 t243,.int .u64 0]) ?_ 1 _ rfl;(with_reducible repeat (first | refine b1 ?_ _ | refine b2 ?_ | refine b3 ?_ _));refine blk_put (cs:=#[.int .u64 0,.int .u64 0]) ?_ 0 _ rfl;exact kA) hb);replace HB:=hb_ hb;(try clear hb)) | ((with_reducible refine gate_dst (N:=10) rfl ?_);refine bxA 10 #[.int .u64 0,.int .u64 0] 66 ?_;intro gb250 hg w21 hbox hb;have BK250:=Am (hbox);have GW250:=gW_ hg;have GE250:=gW_ hg;have NB247_250:=nA_ (g:=gb247) hg;have NB250_247:=nB_ (g:=gb247) hg;replace BK247:=kb_ (g:=gb247) hb;replace HB:=hb_ hb;clear hb hbox hg;have hnb22:=NB250_247.out;have hnc22:=NB247_250.out;obtain ⟨hcz23_0,hcz23_1,hfz23_0,hfz23_1⟩:=k2 BK250.out))
   (try simp only [Act.put,List.setIfInBounds_toArray,List.set_cons_zero,List.set_cons_succ])
   go_cut [35] (fun v35 wc => ∃ (kq : Nat) (x35_14 : Bool),v35 = .bool x35_14 ∧ Aside0 (share_exponent.j1 kq x35_14 t248 t249 = some r) ∧ Aside0 (kq ≤ kj6) ∧ Aside0 (wc.heap[gb247]? = some (.cells #[.int .u64 t243,.int .u64 t244] 66 (0,0))) ∧ Aside0 (wc.heap[gb250]? = some (.cells #[.int .u64 t248,.int .u64 t249] 66 (0,0))) ∧ Aside0 (Below w.heap.size w wc))
   case first =>
    have H:=HC15.out;clear HC15
    by_cases c24 : t245 > 0
    ·rw [if_pos c24] at H;have c24b0 : decide (0 < t245) = true:=dT c24;clear c24
     (first | rw [c24b0] | (simp only [i64_w,i32_w];rw [c24b0]) | skip)
     have H':=Am H;clear H;go_wp2
     go_meet
     case rel => exact ⟨_,(true),(by first | rfl | (simp;done) | (simp [*];done)),H',⟨by have:=HJ6.out;first | omega | exact Nat.le_refl _⟩,⟨kF⟩,⟨by (with_reducible repeat (first | refine b1 ?_ _ | refine b2 ?_ | refine b3 ?_ _));refine blk_put (cs:=#[.int .u64 t248,.int .u64 0]) ?_ 1 _ rfl;(with_reducible repeat (first | refine b1 ?_ _ | refine b2 ?_ | refine b3 ?_ _));refine blk_put (cs:=#[.int .u64 0,.int .u64 0]) ?_ 0 _ rfl;exact kA⟩,⟨bA⟩⟩
    ·rw [if_neg c24] at H;have c24b0 : decide (0 < t245) = false:=dF c24;clear c24
     (first | rw [c24b0] | (simp only [i64_w,i32_w];rw [c24b0]) | skip)
     have H':=Am H;clear H;have hnb25:=NB247_250.out;have hnc25:=NB250_247.out;obtain ⟨hcz26_0,hcz26_1,hfz26_0,hfz26_1⟩:=k2 BK247.out;go_wp2
     go_meet
     case rel => exact ⟨_,(decide ((IntKind.u64.wrap (t244 * 8589934592)) > 0)),(by first | rfl | (simp;done) | (simp [*];done)),H',⟨by have:=HJ6.out;first | omega | exact Nat.le_refl _⟩,⟨kF⟩,⟨by (with_reducible repeat (first | refine b1 ?_ _ | refine b2 ?_ | refine b3 ?_ _));refine blk_put (cs:=#[.int .u64 t248,.int .u64 0]) ?_ 1 _ rfl;(with_reducible repeat (first | refine b1 ?_ _ | refine b2 ?_ | refine b3 ?_ _));refine blk_put (cs:=#[.int .u64 0,.int .u64 0]) ?_ 0 _ rfl;exact kA⟩,⟨bA⟩⟩
   case rest =>
    clear HC15
    try clear c1
    try clear c2
    try clear p2
    try clear c3
    try clear c4
    try clear c6
    try clear c7
    try clear c11
    try clear c11b0
    try clear c22
    try clear c24
    try clear c24b0
    try clear c25
    try clear hcz19_0
    try clear hcz19_1
    try clear hcz23_0
    try clear hcz23_1
    try clear hcz26_0
    try clear hcz26_1
    try clear hfz19_0
    try clear hfz19_1
    try clear hfz23_0
    try clear hfz23_1
    try clear hfz26_0
    try clear hfz26_1
    try clear p2
    obtain ⟨kq,x35_14,rfl,HA,HJ14,BK247,BK250,HB⟩:=hcut
    cases kq with
    | zero => exact absurd HA.out (by simp [share_exponent.j1])
    | succ kj14 =>
     have H:=HA.out;clear HA;simp only [share_exponent.j1] at H
     by_cases c27 : x35_14 = true
     ·subst c27;have H1 : ((wide_Of.f 1).bind fun bt251 => ((wide_Add.f t248 t249 bt251.1 bt251.2).bind fun bt253 => (if bt253.1 > 0 then (some 18446744073709551615) else (some bt253.2.1)))) = some r:=by rw [if_pos rfl] at H;exact H
      clear H;have H:=H1;clear H1;obtain ⟨⟨t251,t252⟩,A28,H⟩:=bnd H;(try dsimp only at H);obtain ⟨⟨t253,t254,t255⟩,A29,H⟩:=bnd H;(try dsimp only at H)
      by_cases c30 : t253 > 0
      ·rw [if_pos c30] at H;have c30b0 : decide (0 < t253) = true:=dT c30;clear c30;obtain rfl:=oI H
       try go_wp2
       replace BK247:=Am (blk_drew BK247.out);replace BK250:=Am (blk_drew BK250.out);replace HB:=Am (below_drew1 HB.out);refine start_ (n:=7) (S:=fun w' => w'.cell? ⟨gb250,0,none⟩ = some (.int .u64 t248) ∧ w'.cell? ⟨gb250,1,none⟩ = some (.int .u64 t249)) (ds:=[6]) #[nn,nn,nn,nn,nn,nn,nn] (by kernel_rfl) rfl rfl (q2 BK250.out) (fun hHeld => ?_);generalize wc.drew = w31 at BK247 BK250 HB hHeld ⊢;refine tk_ 0 (some 37) (bm 7 1) (by kernel_rfl) hHeld ?_;refine one_ (i:=1) (N:=some 38) (bm 7 3) rfl rfl (by kernel_rfl) (by decide) (fun K hK => ?_);refine goes_ Tryz.func77 (by kernel_rfl) rfl #[.int .u64 1] (by rfl) rfl rfl aA ?_;with_reducible refine (wide_Of.calls 1 t251 t252 _ A28.out).mono ?_
       rintro e w32 ⟨rfl,hb⟩;refine ⟨_,rfl,?_⟩;replace BK247:=kb_ (g:=gb247) hb;replace BK250:=kb_ (g:=gb250) hb;replace HB:=hb_ hb;(try clear hb);refine hK.out _ _ (q2 BK250.out) (fun hHeld => ?_);clear hK K;refine nm_ ?_;refine one_ (i:=2) (N:=some 39) (bm 7 7) rfl rfl (by kernel_rfl) (by decide) (fun K hK => ?_);refine goes_ Tryz.func79 (by kernel_rfl) rfl #[.agg #[.int .u64 t248,.int .u64 t249],.agg #[.int .u64 t251,.int .u64 t252]] (by rfl) rfl rfl aA ?_;with_reducible refine (wide_Add.calls t248 t249 t251 t252 t253 t254 t255 _ A29.out).mono ?_
       rintro e w33 ⟨rfl,hb⟩;refine ⟨_,rfl,?_⟩;replace BK247:=kb_ (g:=gb247) hb;replace BK250:=kb_ (g:=gb250) hb;replace HB:=hb_ hb;(try clear hb);refine hK.out _ _ (q2 BK250.out) (fun hHeld => ?_);clear hK K;refine nm_ ?_;refine pu_ 3 (some 36) (bm 7 15) (by kernel_rfl) ?_;refine pu_ 4 (some 40) (bm 7 31) (by kernel_rfl) ?_;refine pu_ 5 (some 41) (bm 7 63) (by kernel_rfl) ?_;refine last_ (i:=6) (N:=none) (bm 7 127) rfl rfl (by kernel_rfl) (by decide) (fun K hK => ?_);have hs34 : w33.cell? ⟨gb250,0,none⟩ = some (.int .u64 t248):=(blk_cell BK250.out 0).trans rfl;have hfs34:=blk_frozen BK250.out 0;have hns34_0:=NB247_250.out;have hms34_0:=NB250_247.out;have hs35 : w33.cell? ⟨gb250,1,none⟩ = some (.int .u64 t249):=(blk_cell BK250.out 1).trans rfl;have hfs35:=blk_frozen BK250.out 1;have hns35_0:=NB247_250.out;have hms35_0:=NB250_247.out;refine skip_ (w1:=?_) (by rfl) rfl ?_ ?_
       rotate_left
       ·go_simp;rfl
       refine hK.out _ _ ?_;clear hK K;refine done_ (by kernel_rfl) ?_;have hnb36:=NB250_247.out;have hnc36:=NB247_250.out;obtain ⟨hcz37_0,hcz37_1,hfz37_0,hfz37_1⟩:=k2 BK250.out
       try go_wp2
       go_ret;exact eA
      ·rw [if_neg c30] at H;have c30b0 : decide (0 < t253) = false:=dF c30;clear c30;obtain rfl:=oI H
       try go_wp2
       replace BK247:=Am (blk_drew BK247.out);replace BK250:=Am (blk_drew BK250.out);replace HB:=Am (below_drew1 HB.out);refine start_ (n:=7) (S:=fun w' => w'.cell? ⟨gb250,0,none⟩ = some (.int .u64 t248) ∧ w'.cell? ⟨gb250,1,none⟩ = some (.int .u64 t249)) (ds:=[6]) #[nn,nn,nn,nn,nn,nn,nn] (by kernel_rfl) rfl rfl (q2 BK250.out) (fun hHeld => ?_);generalize wc.drew = w38 at BK247 BK250 HB hHeld ⊢;refine tk_ 0 (some 37) (bm 7 1) (by kernel_rfl) hHeld ?_;refine one_ (i:=1) (N:=some 38) (bm 7 3) rfl rfl (by kernel_rfl) (by decide) (fun K hK => ?_);refine goes_ Tryz.func77 (by kernel_rfl) rfl #[.int .u64 1] (by rfl) rfl rfl aA ?_;with_reducible refine (wide_Of.calls 1 t251 t252 _ A28.out).mono ?_
       rintro e w39 ⟨rfl,hb⟩;refine ⟨_,rfl,?_⟩;replace BK247:=kb_ (g:=gb247) hb;replace BK250:=kb_ (g:=gb250) hb;replace HB:=hb_ hb;(try clear hb);refine hK.out _ _ (q2 BK250.out) (fun hHeld => ?_);clear hK K;refine nm_ ?_;refine one_ (i:=2) (N:=some 39) (bm 7 7) rfl rfl (by kernel_rfl) (by decide) (fun K hK => ?_);refine goes_ Tryz.func79 (by kernel_rfl) rfl #[.agg #[.int .u64 t248,.int .u64 t249],.agg #[.int .u64 t251,.int .u64 t252]] (by rfl) rfl rfl aA ?_;with_reducible refine (wide_Add.calls t248 t249 t251 t252 t253 t254 t255 _ A29.out).mono ?_
       rintro e w40 ⟨rfl,hb⟩;refine ⟨_,rfl,?_⟩;replace BK247:=kb_ (g:=gb247) hb;replace BK250:=kb_ (g:=gb250) hb;replace HB:=hb_ hb;(try clear hb);refine hK.out _ _ (q2 BK250.out) (fun hHeld => ?_);clear hK K;refine nm_ ?_;refine pu_ 3 (some 36) (bm 7 15) (by kernel_rfl) ?_;refine pu_ 4 (some 40) (bm 7 31) (by kernel_rfl) ?_;refine pu_ 5 (some 41) (bm 7 63) (by kernel_rfl) ?_;refine last_ (i:=6) (N:=none) (bm 7 127) rfl rfl (by kernel_rfl) (by decide) (fun K hK => ?_);have hs41 : w40.cell? ⟨gb250,0,none⟩ = some (.int .u64 t248):=(blk_cell BK250.out 0).trans rfl;have hfs41:=blk_frozen BK250.out 0;have hns41_0:=NB247_250.out;have hms41_0:=NB250_247.out;have hs42 : w40.cell? ⟨gb250,1,none⟩ = some (.int .u64 t249):=(blk_cell BK250.out 1).trans rfl;have hfs42:=blk_frozen BK250.out 1;have hns42_0:=NB247_250.out;have hms42_0:=NB250_247.out;refine skip_ (w1:=?_) (by rfl) rfl ?_ ?_
       rotate_left
       ·go_simp;rfl
       refine hK.out _ _ ?_;clear hK K;refine done_ (by kernel_rfl) ?_;have hnb43:=NB250_247.out;have hnc43:=NB247_250.out;obtain ⟨hcz44_0,hcz44_1,hfz44_0,hfz44_1⟩:=k2 BK250.out
       try go_wp2
       go_ret;exact eA
     ·replace c27:=Bool.eq_false_iff.mpr c27;subst c27;have H1 : (if t248 > 0 then (some 18446744073709551615) else (some t249)) = some r:=by rw [if_neg (show ¬ (false = true) by decide)] at H;exact H
      clear H;have H:=H1;clear H1
      by_cases c45 : t248 > 0
      ·rw [if_pos c45] at H;have c45b0 : decide (0 < t248) = true:=dT c45;clear c45;obtain rfl:=oI H;have hnb46:=NB250_247.out;have hnc46:=NB247_250.out;obtain ⟨hcz47_0,hcz47_1,hfz47_0,hfz47_1⟩:=k2 BK250.out;go_wp2;go_ret;exact eA
      ·rw [if_neg c45] at H;have c45b0 : decide (0 < t248) = false:=dF c45;clear c45;obtain rfl:=oI H;have hnb48:=NB250_247.out;have hnc48:=NB247_250.out;obtain ⟨hcz49_0,hcz49_1,hfz49_0,hfz49_1⟩:=k2 BK250.out;go_wp2;go_ret;exact eA






def backfillref11_within.f (a0 : Int) (a1 : Int) (a2 : Int) : Option (Bool):=if a0 ≥ a1 then (some (decide (a0 ≤ a2))) else (some false)
theorem backfillref11_within.calls (a0 : Int) (a1 : Int) (a2 : Int) (r : Bool) (w : World) (h : backfillref11_within.f a0 a1 a2 = some r) :
  Calls Tryz.prog 55 #[.int .i64 a0,.int .i64 a1,.int .i64 a2] w fun e w' => e = .returned (.bool r) ∧ Drawn0 w w':=by
 have H : (if a0 ≥ a1 then (some (decide (a0 ≤ a2))) else (some false)) = some r:=h;clear h
 by_cases c4 : a0 ≥ a1
 ·rw [if_pos c4] at H;have c4b0 : decide (a1 ≤ a0) = true:=dT c4;clear c4;obtain rfl:=oI H;go_enter Tryz.func55,Tryz.ntmps55;go_wp2;go_ret;exact ⟨by first | rfl | (simp;done) | (simp [*];done),by repeat (first | exact Drawn0.refl _ | apply Drawn0.step)⟩
 ·rw [if_neg c4] at H;have c4b0 : decide (a1 ≤ a0) = false:=dF c4;clear c4;obtain rfl:=oI H;go_enter Tryz.func55,Tryz.ntmps55;go_wp2;go_ret;exact ⟨by first | rfl | (simp;done) | (simp [*];done),by repeat (first | exact Drawn0.refl _ | apply Drawn0.step)⟩

end Go.Proofs.YtodibpddlibneaaGreatDoor.GSH
namespace Go.Proofs.YtodibpddlibneaaGreatDoor.Q
open Go.RowKit GSH YtodibpddlibneaaGreatDoorW.PrintWords YtodibpddlibneaaGreatDoorW.PrintLast YtodibpddlibneaaGreatDoorW.PrintMore
theorem and_bit (E d : Nat) (hE : E < 18446744073709551616) (hd : d < 64) : Go.bits .and .u64 (E : Int) (IntKind.u64.wrap (2 ^ d)) = 0 ↔ bit E d = 0:=by
  have p:=pow_bd d (by omega);have p0:=pow_pos_ d;have hlt : (2 : Nat) ^ d < 2 ^ 64:=Nat.pow_lt_pow_right (by decide) hd;have e2 : (2 : Int) ^ d = ((2 ^ d : Nat) : Int):=by simp
  have hw : IntKind.u64.wrap (2 ^ d) = ((2 ^ d : Nat) : Int):=by
    rw [e2,wraps_u64 _ (by omega) (by exact_mod_cast hlt)]
  rw [hw,(bits_nat .u64 64 (by decide) wraps_u64 E (2 ^ d) (by omega) hlt).1];have hb : bit E d = 0 ↔ E.testBit d = false:=by
    rw [Nat.testBit_eq_decide_div_mod_eq];unfold bit
    have:=Nat.mod_lt (E / 2 ^ d) (show 0 < 2 by decide);simp
  rw [hb];constructor
  · intro h
    have h0 : E &&& 2 ^ d = 0:=by exact_mod_cast h
    have h1:=congrArg (fun x => x.testBit d) h0;simpa [Nat.testBit_and,Nat.testBit_two_pow_self] using h1
  · intro h
    have h0 : E &&& 2 ^ d = 0:=by
      apply Nat.eq_of_testBit_eq;intro i;rw [Nat.testBit_and,Nat.testBit_two_pow,Nat.zero_testBit]
      by_cases c : d = i
      · subst c
        simp [h]
      · simp [c]
    rw [h0];rfl
theorem rd_rung {d : Nat} (h : d < 32) : rd rungsL ((31 - d : Nat) : Int) = ((rung d : Nat) : Int):=by
  have : ∀ d : Fin 32,rd rungsL ((31 - d.val : Nat) : Int) = ((rung d.val : Nat) : Int):=by decide +kernel
  exact this ⟨d,h⟩
theorem go_half : ∀ {d : Nat} {E T : Nat},d ≤ 32 → E < 18446744073709551616 → T ≤ 9223372036854775808 → ladder_Half.go d (E : Int) (T : Int) = some ((hgo d E T : Nat) : Int)
  | 0,_,_,_,_,_ => rfl
  | d + 1,E,T,h,hE,hT => by
    simp only [ladder_Half.go];rw [hgo];have hr : rung d < 18446744073709551616:=rung_lt (d:=d) (by omega)
    by_cases c : bit E d = 0
    · rw [if_pos ((and_bit E d hE (by omega)).2 c),if_pos c]
      exact go_half (by omega) hE hT
    · rw [if_neg (fun h => c ((and_bit E d hE (by omega)).1 h)),if_neg c,rd_rung (by omega)]
      rw [wmul ⟨by omega,by omega⟩ ⟨by omega,by omega⟩];simp only [Option.bind_some];have e : (T : Int) * ((rung d : Nat) : Int) / 18446744073709551616 = ((T * rung d / BB : Nat) : Int):=by simp
      rw [e];refine go_half (by omega) hE ?_;apply Nat.div_le_of_le_mul;rw [Nat.mul_comm BB];exact Nat.le_trans (Nat.mul_le_mul_left _ (Nat.le_of_lt hr)) (Nat.mul_le_mul_right _ hT)
theorem half (E : Nat) (hE : E < 18446744073709551616) : ladder_Half.f (E : Int) = some ((HH E : Nat) : Int):=by
  unfold ladder_Half.f HH
  by_cases c : E / 4294967296 ≥ 63
  · rw [if_pos (by omega),if_pos c];rfl
  · rw [if_neg (by omega),if_neg c,if_pos (by omega)]
    have:=go_half (d:=32) (E:=E) (T:=9223372036854775808) (by omega) hE (by omega);rw [show ((9223372036854775808 : Nat) : Int) = 9223372036854775808 from rfl] at this;rw [this];simp only [Option.bind_some];have e : ((E : Int) / 4294967296).toNat = E / 4294967296:=by omega
    rw [e];unfold gg;simp
theorem half_i {e : Int} (h : U e) : ladder_Half.f e = some ((HH e.toNat : Nat) : Int):=by
  obtain ⟨h0,h1⟩:=h;obtain ⟨E,rfl⟩:=Int.eq_ofNat_of_zero_le h0;rw [Int.toNat_natCast];exact half E (by omega)
end Go.Proofs.YtodibpddlibneaaGreatDoor.Q
namespace Go.Proofs.YtodibpddlibneaaGreatDoor.Q
open Go.RowKit YtodibpddlibneaaGreatDoorW.PrintWords YtodibpddlibneaaGreatDoorW.PrintLast YtodibpddlibneaaGreatDoorW.PrintMore
/-- A config within its ranges. -/
structure Cfg (N Q L A F S P H : Int) : Prop where
  n0 : 1 ≤ N
  n1 : N ≤ 256
  q0 : 1 ≤ Q
  q1 : Q ≤ 128
  l0 : 1 ≤ L
  l1 : L ≤ 1048576
  a0 : 1 ≤ A
  a1 : A ≤ 1048576
  f0 : 0 ≤ F
  f1 : F ≤ 1048576
  s0 : 0 ≤ S
  s1 : S ≤ 1048576
  p0 : 1 ≤ P
  p1 : P ≤ 1048576
  h0 : 1 ≤ H
  h1 : H ≤ 1073741824
def within (x lo hi : Int) : Bool:=decide (lo ≤ x ∧ x ≤ hi)
def inR (N Q L A F S P H : Int) : Bool:=within N 1 256 && within Q 1 128 && within L 1 1048576 && within A 1 1048576 && within F 0 1048576 && within S 0 1048576 && within P 1 1048576 && within H 1 1073741824
theorem inR_cfg {N Q L A F S P H : Int} (h : inR N Q L A F S P H = true) : Cfg N Q L A F S P H:=by
  unfold inR within at h;simp only [Bool.and_eq_true,decide_eq_true_eq] at h;obtain ⟨⟨⟨⟨⟨⟨⟨⟨a,b⟩,c,d⟩,e,f⟩,g,i⟩,j,k⟩,l,m⟩,n,o⟩,p,q⟩:=h;exact ⟨a,b,c,d,e,f,g,i,j,k,l,m,n,o,p,q⟩
theorem prod_bd {x y a b : Int} (x0 : 0 ≤ x) (xa : x ≤ a) (y0 : 0 ≤ y) (yb : y ≤ b) : 0 ≤ x * y ∧ x * y ≤ a * b:=
  ⟨Int.mul_nonneg x0 y0,Int.le_trans (Int.mul_le_mul_of_nonneg_right xa y0) (Int.mul_le_mul_of_nonneg_left yb (by omega))⟩
/-- The exponent,and for how many periods a usage stands. -/
def eV (P H : Int) : Int:=P * 4294967296 / H
def keepV (P H : Int) : Int:=if (8589934592 + eV P H - 1) / eV P H < 2 then 2 else (8589934592 + eV P H - 1) / eV P H
theorem eV_bd {P H : Int} (p0 : 1 ≤ P) (p1 : P ≤ 1048576) (h0 : 1 ≤ H) (h1 : H ≤ 1073741824) : 4 ≤ eV P H ∧ eV P H ≤ 4503599627370496:=by
  unfold eV
  have:=Int.ediv_le_self (a:=P * 4294967296) H (by omega);refine ⟨?_,by omega⟩;rw [Int.le_ediv_iff_mul_le (by omega)];omega
theorem up_bd {E : Int} (h : 4 ≤ E) : 0 ≤ (8589934592 + E - 1) / E ∧ (8589934592 + E - 1) / E ≤ 2147483649:=by
  refine ⟨Int.ediv_nonneg (by omega) (by omega),?_⟩;have h2 : (8589934592 + E - 1) / E < 2147483650:=by
    rw [Int.ediv_lt_iff_lt_mul (by omega)];omega
  omega
theorem keep_bd {P H : Int} (p0 : 1 ≤ P) (p1 : P ≤ 1048576) (h0 : 1 ≤ H) (h1 : H ≤ 1073741824) : 2 ≤ keepV P H ∧ keepV P H ≤ 2147483649:=by
  have:=up_bd (eV_bd p0 p1 h0 h1).1;unfold keepV;split <;> omega
/-- Nodes by ticks;the greatest usage;the greatest priority that is not age. -/
def mostV (N P H : Int) : Int:=N * P * keepV P H
def fsV (N F S : Int) : Int:=F + S * N
theorem area_bd {N P : Int} (n0 : 1 ≤ N) (n1 : N ≤ 256) (p0 : 1 ≤ P) (p1 : P ≤ 1048576) : 1 ≤ N * P ∧ N * P ≤ 268435456:=by
  have h:=prod_bd (x:=N) (y:=P) (a:=256) (b:=1048576) (by omega) n1 (by omega) p1;have h2 : 1 * P ≤ N * P:=Int.mul_le_mul_of_nonneg_right n0 (by omega);omega
theorem most_bd {N P H : Int} (n0 : 1 ≤ N) (n1 : N ≤ 256) (p0 : 1 ≤ P) (p1 : P ≤ 1048576) (h0 : 1 ≤ H) (h1 : H ≤ 1073741824) : keepV P H ≤ mostV N P H ∧ 2 * (N * P) ≤ mostV N P H ∧ mostV N P H ≤ 576460752571858944:=by
  have a:=area_bd n0 n1 p0 p1;have k:=keep_bd p0 p1 h0 h1;unfold mostV;have h:=prod_bd (x:=N * P) (y:=keepV P H) (a:=268435456) (b:=2147483649) (by omega) a.2 (by omega) k.2;have h2 : 1 * keepV P H ≤ N * P * keepV P H:=Int.mul_le_mul_of_nonneg_right a.1 (by omega);have h3 : N * P * 2 ≤ N * P * keepV P H:=Int.mul_le_mul_of_nonneg_left k.1 (by omega);omega
theorem sn_bd {N S : Int} (n0 : 1 ≤ N) (n1 : N ≤ 256) (s0 : 0 ≤ S) (s1 : S ≤ 1048576) : 0 ≤ S * N ∧ S * N ≤ 268435456:=by
  have h:=prod_bd (x:=S) (y:=N) (a:=1048576) (b:=256) s0 s1 (by omega) n1;omega
def leadV (N A F S : Int) : Int:=fsV N F S / A
def boundV (N Q L A F S : Int) : Int:=leadV N A F S + 1 + Q * L
theorem lead_bd {N A F S : Int} (a0 : 1 ≤ A) (h0 : 0 ≤ fsV N F S) (h1 : fsV N F S ≤ 269484032) : 0 ≤ leadV N A F S ∧ leadV N A F S ≤ 269484032:=by
  unfold leadV;refine ⟨Int.ediv_nonneg h0 (by omega),?_⟩
  have:=Int.ediv_le_self (a:=fsV N F S) A h0;omega
/-- The two numbers of Off,where Fair is not 0. -/
def gV (N P H : Int) : Int:=keepV P H * (1 + (mostV N P H * 81 + 2147483648 - 1) / 2147483648)
def xV (N P H : Int) : Int:=258048 * gV N P H + 2 * (N * P)
def denV (N P : Int) : Int:=N * P * 4294967296
def numV (N F P H : Int) : Int:=F * xV N P H + denV N P
theorem g_bd {N P H : Int} (k0 : 2 ≤ keepV P H) (k1 : keepV P H ≤ mostV N P H) (m : mostV N P H ≤ 2147483648) : 0 ≤ gV N P H ∧ gV N P H ≤ 178241142784:=by
  unfold gV;have h:=prod_bd (x:=keepV P H) (y:=1 + (mostV N P H * 81 + 2147483648 - 1) / 2147483648) (a:=2147483648) (b:=83) (by omega) (by omega) (by omega) (by omega);omega
theorem x_bd {N P H : Int} (a0 : 1 ≤ N * P) (a1 : N * P ≤ 268435456) (g0 : 0 ≤ gV N P H) (g1 : gV N P H ≤ 178241142784) : 0 ≤ xV N P H ∧ xV N P H ≤ 46000000000000000:=by
  unfold xV;omega
theorem num_bd {N F P H : Int} (f0 : 0 ≤ F) (f1 : F ≤ 1048576) (a0 : 1 ≤ N * P) (a1 : N * P ≤ 268435456) (x0 : 0 ≤ xV N P H) (x1 : xV N P H ≤ 46000000000000000) : 0 ≤ F * xV N P H ∧ F * xV N P H ≤ 48234496000000000000000 ∧ 4294967296 ≤ numV N F P H ∧ numV N F P H ≤ 48235648921504606846976:=by
  have h:=prod_bd (x:=F) (y:=xV N P H) (a:=1048576) (b:=46000000000000000) f0 f1 x0 x1;unfold numV denV;omega
end Go.Proofs.YtodibpddlibneaaGreatDoor.Q
namespace Go.Proofs.YtodibpddlibneaaGreatDoor.Q
open Go.RowKit GSH YtodibpddlibneaaGreatDoorW.PrintWords YtodibpddlibneaaGreatDoorW.PrintLast YtodibpddlibneaaGreatDoorW.PrintMore
theorem umod' (x : Int) : U (x % 18446744073709551616):=⟨by omega,by omega⟩
/-- A product of three words. -/
def timesV (h l y : Int) : Int × Int × Bool:=if h * y / 18446744073709551616 > 0 then (18446744073709551615,18446744073709551615,false) else addV (l * y) (V (h * y % 18446744073709551616) 0)
theorem wtimes {h l y : Int} (hh : U h) (hl : U l) (hy : U y) : wide_Times.f h l y = some (timesV h l y):=by
  unfold wide_Times.f timesV;rw [wmul hl hy,wmul hh hy];simp only [Option.bind_some];have m1:=mul_bd hl hy
  by_cases c : h * y / 18446744073709551616 > 0
  · rw [if_pos c,if_pos c];rfl
  · rw [if_neg c,if_neg c,wadd ⟨by omega,by omega⟩ (umod' _) (umod' _) ⟨by omega,by omega⟩]
    simp only [Option.bind_some];rw [show V (l * y / 18446744073709551616) (l * y % 18446744073709551616) = l * y by unfold V;omega]
theorem times_fits {q y : Int} (hq : 0 ≤ q) (hy : 0 ≤ y) (hb : q * y < 340282366920938463463374607431768211456) : timesV (q / 18446744073709551616) (q % 18446744073709551616) y = (q * y / 18446744073709551616,q * y % 18446744073709551616,true):=by
  unfold timesV;have e : q * y = q / 18446744073709551616 * y * 18446744073709551616 + q % 18446744073709551616 * y:=by
    have : q = q / 18446744073709551616 * 18446744073709551616 + q % 18446744073709551616:=by omega
    generalize q / 18446744073709551616 = a at *;generalize q % 18446744073709551616 = b at *;subst this
    grind
  have n1 : 0 ≤ q / 18446744073709551616 * y:=Int.mul_nonneg (by omega) hy;have n2 : 0 ≤ q % 18446744073709551616 * y:=Int.mul_nonneg (by omega) hy;generalize q / 18446744073709551616 * y = A at *;generalize q % 18446744073709551616 * y = B at *;rw [if_neg (by omega)];have hs : B + V (A % 18446744073709551616) 0 = q * y:=by unfold V;omega
  unfold addV;rw [hs,if_pos hb]
end Go.Proofs.YtodibpddlibneaaGreatDoor.Q
namespace Go.Proofs.YtodibpddlibneaaGreatDoor.Q
open Go.RowKit YtodibpddlibneaaGreatDoorW.PrintWords YtodibpddlibneaaGreatDoorW.PrintLast YtodibpddlibneaaGreatDoorW.PrintMore
/-- All that is needed of a config within its ranges. -/
structure Bds (N Q L A F S P H : Int) : Prop extends Cfg N Q L A F S P H where
  e0 : 4 ≤ eV P H
  e1 : eV P H ≤ 4503599627370496
  k0 : 2 ≤ keepV P H
  k1 : keepV P H ≤ 2147483649
  c0 : 1 ≤ N * P
  c1 : N * P ≤ 268435456
  m0 : keepV P H ≤ mostV N P H
  m2 : 2 * (N * P) ≤ mostV N P H
  m1 : mostV N P H ≤ 576460752571858944
  sn0 : 0 ≤ S * N
  sn1 : S * N ≤ 268435456
  fs0 : 0 ≤ fsV N F S
  fs1 : fsV N F S ≤ 269484032
  ld0 : 0 ≤ leadV N A F S
  ld1 : leadV N A F S ≤ 269484032
  ql0 : 0 ≤ Q * L
  ql1 : Q * L ≤ 134217728
  b0 : 1 ≤ boundV N Q L A F S
  b1 : boundV N Q L A F S ≤ 403701761
  ab0 : 0 ≤ A * boundV N Q L A F S
  ab1 : A * boundV N Q L A F S ≤ 423311977742336
theorem bds {N Q L A F S P H : Int} (C : Cfg N Q L A F S P H) : Bds N Q L A F S P H:=by
  obtain ⟨n0,n1,q0,q1,l0,l1,a0,a1,f0,f1,s0,s1,p0,p1,h0,h1⟩:=C;obtain ⟨e0,e1⟩:=eV_bd p0 p1 h0 h1;obtain ⟨k0,k1⟩:=keep_bd p0 p1 h0 h1;obtain ⟨c0,c1⟩:=area_bd n0 n1 p0 p1;obtain ⟨m0,m2,m1⟩:=most_bd n0 n1 p0 p1 h0 h1;obtain ⟨sn0,sn1⟩:=sn_bd n0 n1 s0 s1;have fs0 : 0 ≤ fsV N F S:=by unfold fsV;omega
  have fs1 : fsV N F S ≤ 269484032:=by unfold fsV;omega
  obtain ⟨ld0,ld1⟩:=lead_bd (A:=A) a0 fs0 fs1;have hq:=prod_bd (x:=Q) (y:=L) (a:=128) (b:=1048576) (by omega) q1 (by omega) l1;have b0 : 1 ≤ boundV N Q L A F S:=by unfold boundV;omega
  have b1 : boundV N Q L A F S ≤ 403701761:=by unfold boundV;omega
  have hab:=prod_bd (x:=A) (y:=boundV N Q L A F S) (a:=1048576) (b:=403701761) (by omega) a1 (by omega) b1;exact ⟨⟨n0,n1,q0,q1,l0,l1,a0,a1,f0,f1,s0,s1,p0,p1,h0,h1⟩,e0,e1,k0,k1,c0,c1,m0,m2,m1,sn0,sn1,fs0,fs1,ld0,ld1,hq.1,by omega,b0,b1,hab.1,by omega⟩
/-- The two numbers of Off,as words. -/
def bndV (N F P H : Int) : Int × Int × Int × Int:=if F = 0 then (0,0,0,1) else (numV N F P H / 18446744073709551616,numV N F P H % 18446744073709551616,denV N P / 18446744073709551616,denV N P % 18446744073709551616)
def offV (N Q L A F S P H : Int) : Int:=if cmpV (V (timesV (bndV N F P H).1 (bndV N F P H).2.1 1000).1 (timesV (bndV N F P H).1 (bndV N F P H).2.1 1000).2.1) (V (timesV (bndV N F P H).2.2.1 (bndV N F P H).2.2.2 (A * boundV N Q L A F S + fsV N F S)).1 (timesV (bndV N F P H).2.2.1 (bndV N F P H).2.2.2 (A * boundV N Q L A F S + fsV N F S)).2.1) > 0 then 113 else 0
def checkV (N Q L A F S P H : Int) : Int:=if inR N Q L A F S P H = true then (if mostV N P H > 2147483648 then 111 else if A * 1099511627776 + fsV N F S ≥ 4611686018427387904 then 112 else offV N Q L A F S P H) else 110
theorem num_of {N Q L A F S P H : Int} (B : Bds N Q L A F S P H) (hm : mostV N P H ≤ 2147483648) : 0 ≤ gV N P H ∧ gV N P H ≤ 178241142784 ∧ 0 ≤ xV N P H ∧ xV N P H ≤ 46000000000000000 ∧ 0 ≤ F * xV N P H ∧ F * xV N P H ≤ 48234496000000000000000 ∧ 4294967296 ≤ numV N F P H ∧ numV N F P H ≤ 48235648921504606846976:=by
  obtain ⟨g0,g1⟩:=g_bd B.k0 B.m0 hm;obtain ⟨x0,x1⟩:=x_bd B.c0 B.c1 g0 g1;obtain ⟨f0,f1,n0,n1⟩:=num_bd (H:=H) B.f0 B.f1 B.c0 B.c1 x0 x1;exact ⟨g0,g1,x0,x1,f0,f1,n0,n1⟩
theorem bnd_U {N Q L A F S P H : Int} (B : Bds N Q L A F S P H) (hm : mostV N P H ≤ 2147483648) : U (bndV N F P H).1 ∧ U (bndV N F P H).2.1 ∧ U (bndV N F P H).2.2.1 ∧ U (bndV N F P H).2.2.2:=by
  obtain ⟨_,_,_,_,_,_,n0,n1⟩:=num_of B hm;have c0:=B.c0;have c1:=B.c1;unfold bndV denV;split
  · exact ⟨⟨by decide,by decide⟩,⟨by decide,by decide⟩,⟨by decide,by decide⟩,⟨by decide,by decide⟩⟩
  · refine ⟨⟨?_,?_⟩,⟨?_,?_⟩,⟨?_,?_⟩,⟨?_,?_⟩⟩ <;> dsimp only <;> omega
theorem times_U {h l y : Int} : U (timesV h l y).2.1:=by
  unfold timesV addV;split
  · exact ⟨by decide,by decide⟩
  · split
    · exact umod' _
    · exact ⟨by decide,by decide⟩
end Go.Proofs.YtodibpddlibneaaGreatDoor.Q
namespace Go.Proofs.YtodibpddlibneaaGreatDoor.Q
open Go.RowKit GSH YtodibpddlibneaaGreatDoorW.PrintWords YtodibpddlibneaaGreatDoorW.PrintLast YtodibpddlibneaaGreatDoorW.PrintMore
theorem wshl {h l : Int} (hh : U h) (hl : U l) (n : Nat) (h0 : 0 < n) (h1 : n < 64) : wide_Shl.f h l (n : Int) = some (shlV h l n):=by
  unfold wide_Shl.f shlV;rw [if_neg (by omega),if_pos (by omega),if_pos (by omega),wrap64_in (by omega) (by omega),if_pos (by omega)];rw [show (64 - (n : Int)) = ((64 - n : Nat) : Int) by omega,shl_at n (by omega),shr_at (64 - n) (by omega),shl_at n (by omega)];have d:=div_lt_pow (x:=l) n (by omega) hl
  have:=pow_bd n (by omega);rw [or_add n (umod _) (emod_pow n (by omega)) d.1 d.2 (by omega)]
theorem p_in (x lo hi : Int) : config_inside.f x lo hi = some (within x lo hi):=by
  unfold config_inside.f within
  by_cases c : x ≥ lo
  · rw [if_pos c];congr 1;by_cases d : x ≤ hi <;> simp [c,d]
  · rw [if_neg c];congr 1;simp;omega
theorem p_ranges (k : Nat) (hk : 3 ≤ k) (N Q L A F S P H : Int) : config_asked_ranges.f k N Q L A F S P H = some (if inR N Q L A F S P H = true then 0 else 110):=by
  obtain ⟨k,rfl⟩ : ∃ m,k = m + 2:=⟨k - 2,by omega⟩;unfold config_asked_ranges.f inR;simp only [config_asked_ranges.j0,config_asked_ranges.j1,p_in,Option.bind_some];generalize within N 1 256 = b0;generalize within Q 1 128 = b1;generalize within L 1 1048576 = b2;generalize within A 1 1048576 = b3;generalize within F 0 1048576 = b4;generalize within S 0 1048576 = b5;generalize within P 1 1048576 = b6;generalize within H 1 1073741824 = b7
  cases b0 <;> cases b1 <;> cases b2 <;> cases b3 <;> cases b4 <;> cases b5 <;> cases b6 <;> cases b7 <;> rfl
section
variable {N Q L A F S P H : Int} (B : Bds N Q L A F S P H)
include B
theorem p_area : config_asked_area.f N Q L A F S P H = some (N * P):=by
  unfold config_asked_area.f;rw [wrap64_in (by have:=B.c0;omega) (by have:=B.c1;omega)]
theorem p_keeps : config_asked_keeps.f N Q L A F S P H = some (keepV P H):=by
  obtain ⟨u0,u1⟩:=up_bd B.e0;have e0:=B.e0;have e1:=B.e1;have p0:=B.p0;have p1:=B.p1;have h0:=B.h0;unfold config_asked_keeps.f config_up.f mx;rw [if_neg (by omega),wrap64_in (x:=P * 4294967296) (by omega) (by omega),tdiv_eq (by omega),show P * 4294967296 / H = eV P H from rfl,wrap64_in (x:=eV P H) (by omega) (by omega),if_neg (by omega)];rw [wrap64_in (x:=8589934592 + eV P H) (by omega) (by omega),wrap64_in (x:=8589934592 + eV P H - 1) (by omega) (by omega),tdiv_eq (by omega),wrap64_in (x:=(8589934592 + eV P H - 1) / eV P H) (by omega) (by omega)];simp only [Option.bind_some];unfold keepV
  congr 1
  split <;> split <;> omega
theorem p_most : config_asked_most.f N Q L A F S P H = some (mostV N P H):=by
  unfold config_asked_most.f;rw [p_area B,p_keeps B];simp only [Option.bind_some];have m0:=B.m0;have m1:=B.m1;have k0:=B.k0;rw [show N * P * keepV P H = mostV N P H from rfl,wrap64_in (by omega) (by omega)]
theorem p_fs : config_asked_fairSize.f N Q L A F S P H = some (fsV N F S):=by
  have a:=B.sn0;have b:=B.sn1;have f0:=B.f0;have f1:=B.f1;unfold config_asked_fairSize.f fsV;rw [wrap64_in (x:=S * N) (by omega) (by omega),wrap64_in (by omega) (by omega)]
theorem p_lead : config_asked_lead.f N Q L A F S P H = some (leadV N A F S):=by
  have a:=B.ld0;have b:=B.ld1;have c:=B.fs0;have d:=B.a0;unfold config_asked_lead.f;rw [p_fs B];simp only [Option.bind_some];rw [if_neg (by omega),tdiv_eq c,show fsV N F S / A = leadV N A F S from rfl,wrap64_in (by omega) (by omega)]
theorem p_bound : config_asked_bound.f N Q L A F S P H = some (boundV N Q L A F S):=by
  have a:=B.ld0;have b:=B.ld1;have c:=B.ql0;have d:=B.ql1;unfold config_asked_bound.f boundV;rw [p_lead B];simp only [Option.bind_some];rw [wrap64_in (x:=leadV N A F S + 1) (by omega) (by omega),wrap64_in (x:=Q * L) (by omega) (by omega),wrap64_in (by omega) (by omega)]
theorem p_usage : config_asked_usage.f N Q L A F S P H = some (if mostV N P H > 2147483648 then 111 else 0):=by
  unfold config_asked_usage.f;rw [p_most B];simp only [Option.bind_some];split <;> rfl
theorem p_scale : config_asked_scale.f N Q L A F S P H = some (if A * 1099511627776 + fsV N F S ≥ 4611686018427387904 then 112 else 0):=by
  have a:=B.fs0;have b:=B.fs1;have c:=B.a0;have d:=B.a1;unfold config_asked_scale.f;rw [p_fs B];simp only [Option.bind_some];rw [wrap64_in (x:=A * 1099511627776) (by omega) (by omega),wrap64_in (by omega) (by omega)];split <;> rfl
theorem p_bounds (hm : mostV N P H ≤ 2147483648) : config_asked_bounds.f N Q L A F S P H = some (bndV N F P H):=by
  obtain ⟨g0,g1,x0,x1,fx0,fx1,n0,n1⟩:=num_of B hm;have c0:=B.c0;have c1:=B.c1;have f0:=B.f0;have f1:=B.f1;have m0:=B.m0;have k0:=B.k0;unfold config_asked_bounds.f bndV wide_Of.f
  by_cases c : F = 0
  · rw [if_pos c,if_pos c];rfl
  · rw [if_neg c,if_neg c,p_keeps B,p_most B,p_area B]
    simp only [Option.bind_some];unfold config_up.f;have hd : 0 ≤ (mostV N P H * 81 + 2147483648 - 1) / 2147483648:=Int.ediv_nonneg (by omega) (by omega);rw [if_neg (by decide),wrap64_in (x:=mostV N P H * 81) (by omega) (by omega),wrap64_in (x:=mostV N P H * 81 + 2147483648) (by omega) (by omega),wrap64_in (x:=mostV N P H * 81 + 2147483648 - 1) (by omega) (by omega),tdiv_eq (by omega),wrap64_in (x:=(mostV N P H * 81 + 2147483648 - 1) / 2147483648) (by omega) (by omega)];simp only [Option.bind_some];rw [wrap64_in (x:=1 + (mostV N P H * 81 + 2147483648 - 1) / 2147483648) (by omega) (by omega),show keepV P H * (1 + (mostV N P H * 81 + 2147483648 - 1) / 2147483648) = gV N P H from rfl];rw [wrap64_in (x:=gV N P H) (by omega) (by omega),wrap64_in (x:=258048 * gV N P H) (by omega) (by omega),wrap64_in (x:=2 * (N * P)) (by omega) (by omega),show 258048 * gV N P H + 2 * (N * P) = xV N P H from rfl,wrap64_in (x:=xV N P H) (by omega) (by omega)];rw [w64_in (x:=N * P) (by omega) (by omega),w64_in (x:=F) (by omega) (by omega),w64_in (x:=xV N P H) (by omega) (by omega)];have hs:=wshl (h:=0) (l:=N * P) ⟨by omega,by omega⟩ ⟨by omega,by omega⟩ 32 (by decide) (by decide);rw [show ((32 : Nat) : Int) = 32 from rfl] at hs;have hv : shlV 0 (N * P) 32 = (denV N P / 18446744073709551616,denV N P % 18446744073709551616):=by
      unfold shlV denV;refine Prod.ext ?_ ?_
      · simp;omega
      · simp
    rw [hs,hv];simp only [Option.bind_some];rw [wtimes ⟨by omega,by omega⟩ ⟨by omega,by omega⟩ ⟨by omega,by omega⟩];have ht:=times_fits (q:=F) (y:=xV N P H) f0 x0 (by omega);rw [show F / 18446744073709551616 = 0 by omega,show F % 18446744073709551616 = F by omega] at ht;rw [ht];simp only [Option.bind_some];unfold denV;rw [wadd ⟨by omega,by omega⟩ (umod' _) ⟨by omega,by omega⟩ (umod' _)];simp only [Option.bind_some];unfold addV;have e1 : V (F * xV N P H / 18446744073709551616) (F * xV N P H % 18446744073709551616) + V (N * P * 4294967296 / 18446744073709551616) (N * P * 4294967296 % 18446744073709551616) = numV N F P H:=by
      unfold V numV denV;omega
    rw [e1,if_pos (by omega)]
theorem p_off (hm : mostV N P H ≤ 2147483648) : config_asked_off.f N Q L A F S P H = some (offV N Q L A F S P H):=by
  have a:=B.ab0;have b:=B.ab1;have c:=B.fs0;have d:=B.fs1;obtain ⟨u0,u1,u2,u3⟩:=bnd_U B hm;unfold config_asked_off.f offV;rw [p_bounds B hm,p_bound B,p_fs B];simp only [Option.bind_some];rw [wrap64_in (x:=A * boundV N Q L A F S) (by omega) (by omega),wrap64_in (x:=A * boundV N Q L A F S + fsV N F S) (by omega) (by omega),w64_in (x:=A * boundV N Q L A F S + fsV N F S) (by omega) (by omega),wtimes u0 u1 ⟨by omega,by omega⟩,wtimes u2 u3 ⟨by omega,by omega⟩];simp only [Option.bind_some];rw [wcmp times_U times_U];simp only [Option.bind_some];split <;> rfl
end
theorem p_check (k : Nat) (hk : 3 ≤ k) (N Q L A F S P H : Int) : config_Check.f k N Q L A F S P H = some (checkV N Q L A F S P H):=by
  unfold config_Check.f checkV;rw [p_ranges k hk];simp only [Option.bind_some]
  by_cases c : inR N Q L A F S P H = true
  · have B:=bds (inR_cfg c)
    rw [if_pos c,if_pos c,if_pos rfl,p_usage B];simp only [Option.bind_some]
    by_cases d : mostV N P H > 2147483648
    · rw [if_pos d,if_pos d,if_neg (by decide)]
    · rw [if_neg d,if_neg d,if_pos rfl,p_scale B]
      simp only [Option.bind_some]
      by_cases e : A * 1099511627776 + fsV N F S ≥ 4611686018427387904
      · rw [if_pos e,if_pos e,if_neg (by decide)]
      · rw [if_neg e,if_neg e,if_pos rfl,p_off B (by omega)]
  · rw [if_neg c,if_neg c,if_neg (by decide)]
end Go.Proofs.YtodibpddlibneaaGreatDoor.Q
namespace Go.Proofs.YtodibpddlibneaaGreatDoor.GSH
open Go.RowKit YtodibpddlibneaaGreatDoorW.PrintWords YtodibpddlibneaaGreatDoorW.PrintLast YtodibpddlibneaaGreatDoorW.PrintMore
attribute [local go_sem] max2_int min2_int max_two min_two max_three min_three max_four min_four   -- for this text's walks alone
set_option linter.unusedVariables false
set_option linter.unusedSimpArgs false
def backfilllaw14_plain.f  : Option (Int × Int × Int × Int × Int × Int × Int × Int):=some (4,8,10,2,1000,3,100,100)
theorem backfilllaw14_plain.calls  (r1 : Int) (r2 : Int) (r3 : Int) (r4 : Int) (r5 : Int) (r6 : Int) (r7 : Int) (r8 : Int) (w : World) (h : backfilllaw14_plain.f  = some (r1,r2,r3,r4,r5,r6,r7,r8)) :
  Calls Tryz.prog 15 #[] w fun e w' => e = .returned (.agg #[.int .i64 r1,.int .i64 r2,.int .i64 r3,.int .i64 r4,.int .i64 r5,.int .i64 r6,.int .i64 r7,.int .i64 r8]) ∧ Below w.heap.size w w':=by
 have hu23:=Tryz.underlying23;have HB:=Am (Below.refl w.heap.size w);have H : (some (4,8,10,2,1000,3,100,100)) = some (r1,r2,r3,r4,r5,r6,r7,r8):=h;clear h;simp only [Option.some.injEq,Prod.mk.injEq] at H;obtain ⟨rfl,rfl,rfl,rfl,rfl,rfl,rfl,rfl⟩:=H;go_enter Tryz.func15,Tryz.ntmps15;go_wp2_with (first | ((with_reducible refine gate_dst (N:=0) rfl ?_);refine bxA 0 #[.int .i64 0,.int .i64 0,.int .i64 0,.int .i64 0,.int .i64 0,.int .i64 0,.int .i64 0,.int .i64 0] 23 ?_;intro gb214 hg w1 hbox hb;have BK214:=Am (hbox);have GW214:=gW_ hg;have GE214:=gW_ hg;replace HB:=hb_ hb;clear hb hbox hg;obtain ⟨hcz2_0,hcz2_1,hcz2_2,hcz2_3,hcz2_4,hcz2_5,hcz2_6,hcz2_7,hfz2_0,hfz2_1,hfz2_2,hfz2_3,hfz2_4,hfz2_5,hfz2_6,hfz2_7⟩:=k8 BK214.out))
 refine bodyPost_ret (results_cell_row rfl _ _ gb214 23 #[.int .i64 4,.int .i64 8,.int .i64 10,.int .i64 2,.int .i64 1000,.int .i64 3,.int .i64 100,.int .i64 100] (0,0) _ rfl (by (with_reducible repeat (first | refine b1 ?_ _ | refine b2 ?_ | refine b3 ?_ _));refine blk_put (cs:=#[.int .i64 4,.int .i64 8,.int .i64 10,.int .i64 2,.int .i64 1000,.int .i64 3,.int .i64 100,.int .i64 0]) ?_ 7 _ rfl;(with_reducible repeat (first | refine b1 ?_ _ | refine b2 ?_ | refine b3 ?_ _));refine blk_put (cs:=#[.int .i64 4,.int .i64 8,.int .i64 10,.int .i64 2,.int .i64 1000,.int .i64 3,.int .i64 0,.int .i64 0]) ?_ 6 _ rfl;(with_reducible repeat (first | refine b1 ?_ _ | refine b2 ?_ | refine b3 ?_ _));refine blk_put (cs:=#[.int .i64 4,.int .i64 8,.int .i64 10,.int .i64 2,.int .i64 1000,.int .i64 0,.int .i64 0,.int .i64 0]) ?_ 5 _ rfl;(with_reducible repeat (first | refine b1 ?_ _ | refine b2 ?_ | refine b3 ?_ _));refine blk_put (cs:=#[.int .i64 4,.int .i64 8,.int .i64 10,.int .i64 2,.int .i64 0,.int .i64 0,.int .i64 0,.int .i64 0]) ?_ 4 _ rfl;(with_reducible repeat (first | refine b1 ?_ _ | refine b2 ?_ | refine b3 ?_ _));refine blk_put (cs:=#[.int .i64 4,.int .i64 8,.int .i64 10,.int .i64 0,.int .i64 0,.int .i64 0,.int .i64 0,.int .i64 0]) ?_ 3 _ rfl;(with_reducible repeat (first | refine b1 ?_ _ | refine b2 ?_ | refine b3 ?_ _));refine blk_put (cs:=#[.int .i64 4,.int .i64 8,.int .i64 0,.int .i64 0,.int .i64 0,.int .i64 0,.int .i64 0,.int .i64 0]) ?_ 2 _ rfl;(with_reducible repeat (first | refine b1 ?_ _ | refine b2 ?_ | refine b3 ?_ _));refine blk_put (cs:=#[.int .i64 4,.int .i64 0,.int .i64 0,.int .i64 0,.int .i64 0,.int .i64 0,.int .i64 0,.int .i64 0]) ?_ 1 _ rfl;(with_reducible repeat (first | refine b1 ?_ _ | refine b2 ?_ | refine b3 ?_ _));refine blk_put (cs:=#[.int .i64 0,.int .i64 0,.int .i64 0,.int .i64 0,.int .i64 0,.int .i64 0,.int .i64 0,.int .i64 0]) ?_ 0 _ rfl;exact kA) Tryz.underlying23 rfl (by kernel_rfl)) rfl ?_;exact eA


def config_Floor.f (k : Nat) (a0_0 : Int) (a0_1 : Int) (a0_2 : Int) (a0_3 : Int) (a0_4 : Int) (a0_5 : Int) (a0_6 : Int) (a0_7 : Int) : Option (Int):=(config_Check.f k a0_0 a0_1 a0_2 a0_3 a0_4 a0_5 a0_6 a0_7).bind fun t220 => (if t220 = 0 then ((config_asked_area.f a0_0 a0_1 a0_2 a0_3 a0_4 a0_5 a0_6 a0_7).bind fun t221 => (some (IntKind.u64.wrap ((IntKind.u64.wrap (t221)) * 4294967296)))) else (some 0))
theorem config_Floor.calls (k : Nat) (a0_0 : Int) (a0_1 : Int) (a0_2 : Int) (a0_3 : Int) (a0_4 : Int) (a0_5 : Int) (a0_6 : Int) (a0_7 : Int) (r : Int) (w : World) (h : config_Floor.f k a0_0 a0_1 a0_2 a0_3 a0_4 a0_5 a0_6 a0_7 = some r) :
  Calls Tryz.prog 72 #[.agg #[.int .i64 a0_0,.int .i64 a0_1,.int .i64 a0_2,.int .i64 a0_3,.int .i64 a0_4,.int .i64 a0_5,.int .i64 a0_6,.int .i64 a0_7]] w fun e w' => e = .returned (.int .u64 r) ∧ Below w.heap.size w w':=by
 have hu23:=Tryz.underlying23;have hu73:=Tryz.underlying73;have HB:=Am (Below.refl w.heap.size w);have H : ((config_Check.f k a0_0 a0_1 a0_2 a0_3 a0_4 a0_5 a0_6 a0_7).bind fun t220 => (if t220 = 0 then ((config_asked_area.f a0_0 a0_1 a0_2 a0_3 a0_4 a0_5 a0_6 a0_7).bind fun t221 => (some (IntKind.u64.wrap ((IntKind.u64.wrap (t221)) * 4294967296)))) else (some 0))) = some r:=h;clear h;obtain ⟨t220,A2,H⟩:=bnd H;(try dsimp only at H)
 by_cases c3 : t220 = 0
 ·rw [if_pos c3] at H;have c3b0 : (t220 == 0) = true:=beq_iff_eq.mpr c3;have c3b1 : (t220 != 0) = false:=bne_eq_false_iff_eq.mpr c3;clear c3;obtain ⟨t221,A4,H⟩:=bnd H;(try dsimp only at H);obtain rfl:=oI H;go_enter Tryz.func72,Tryz.ntmps72;go_wp2_with (first | ((with_reducible refine gate_dst (N:=1) rfl ?_);refine bxA 1 #[.int .i64 a0_0,.int .i64 a0_1,.int .i64 a0_2,.int .i64 a0_3,.int .i64 a0_4,.int .i64 a0_5,.int .i64 a0_6,.int .i64 a0_7] 23 ?_;intro gb219 hg w5 hbox hb;have BK219:=Am (hbox);have GW219:=gW_ hg;have GE219:=gW_ hg;replace HB:=hb_ hb;clear hb hbox hg;obtain ⟨hcz6_0,hcz6_1,hcz6_2,hcz6_3,hcz6_4,hcz6_5,hcz6_6,hcz6_7,hfz6_0,hfz6_1,hfz6_2,hfz6_3,hfz6_4,hfz6_5,hfz6_6,hfz6_7⟩:=k8 BK219.out) | ((with_reducible refine gate_callee (f:=16) rfl ?_);refine goesL_ (some 4) rfl rfl Tryz.func16 (by kernel_rfl) rfl #[.agg #[.int .i64 a0_0,.int .i64 a0_1,.int .i64 a0_2,.int .i64 a0_3,.int .i64 a0_4,.int .i64 a0_5,.int .i64 a0_6,.int .i64 a0_7]] rfl aA ?_;(with_reducible refine (config_Check.calls k a0_0 a0_1 a0_2 a0_3 a0_4 a0_5 a0_6 a0_7 t220 _ A2.out).mono ?_);rintro e w7 ⟨rfl,hb⟩;refine ⟨_,rfl,?_⟩;replace BK219:=kb_ (g:=gb219) hb;replace HB:=hb_ hb;(try clear hb);obtain ⟨hcz8_0,hcz8_1,hcz8_2,hcz8_3,hcz8_4,hcz8_5,hcz8_6,hcz8_7,hfz8_0,hfz8_1,hfz8_2,hfz8_3,hfz8_4,hfz8_5,hfz8_6,hfz8_7⟩:=k8 BK219.out) | ((with_reducible refine gate_callee (f:=88) rfl ?_);refine goesL_ (some 8) rfl rfl Tryz.func88 (by kernel_rfl) rfl #[.agg #[.int .i64 a0_0,.int .i64 a0_1,.int .i64 a0_2,.int .i64 a0_3,.int .i64 a0_4,.int .i64 a0_5,.int .i64 a0_6,.int .i64 a0_7]] rfl aA ?_;(with_reducible refine (config_asked_area.calls a0_0 a0_1 a0_2 a0_3 a0_4 a0_5 a0_6 a0_7 t221 _ A4.out).mono ?_);rintro e w9 ⟨rfl,hb⟩;refine ⟨_,rfl,?_⟩;replace BK219:=kb_ (g:=gb219) hb;replace HB:=hb_ hb;(try clear hb)))
  go_ret;exact eA
 ·rw [if_neg c3] at H;have c3b0 : (t220 == 0) = false:=beq_eq_false_iff_ne.mpr c3;have c3b1 : (t220 != 0) = true:=bne_iff_ne.mpr c3;obtain rfl:=oI H;go_enter Tryz.func72,Tryz.ntmps72;go_wp2_with (first | ((with_reducible refine gate_dst (N:=1) rfl ?_);refine bxA 1 #[.int .i64 a0_0,.int .i64 a0_1,.int .i64 a0_2,.int .i64 a0_3,.int .i64 a0_4,.int .i64 a0_5,.int .i64 a0_6,.int .i64 a0_7] 23 ?_;intro gb219 hg w10 hbox hb;have BK219:=Am (hbox);have GW219:=gW_ hg;have GE219:=gW_ hg;replace HB:=hb_ hb;clear hb hbox hg;obtain ⟨hcz11_0,hcz11_1,hcz11_2,hcz11_3,hcz11_4,hcz11_5,hcz11_6,hcz11_7,hfz11_0,hfz11_1,hfz11_2,hfz11_3,hfz11_4,hfz11_5,hfz11_6,hfz11_7⟩:=k8 BK219.out) | ((with_reducible refine gate_callee (f:=16) rfl ?_);refine goesL_ (some 4) rfl rfl Tryz.func16 (by kernel_rfl) rfl #[.agg #[.int .i64 a0_0,.int .i64 a0_1,.int .i64 a0_2,.int .i64 a0_3,.int .i64 a0_4,.int .i64 a0_5,.int .i64 a0_6,.int .i64 a0_7]] rfl aA ?_;(with_reducible refine (config_Check.calls k a0_0 a0_1 a0_2 a0_3 a0_4 a0_5 a0_6 a0_7 t220 _ A2.out).mono ?_);rintro e w12 ⟨rfl,hb⟩;refine ⟨_,rfl,?_⟩;replace BK219:=kb_ (g:=gb219) hb;replace HB:=hb_ hb;(try clear hb)))
  go_ret;exact eA

end Go.Proofs.YtodibpddlibneaaGreatDoor.GSH
namespace Go.Proofs.YtodibpddlibneaaGreatDoor.T
open Go.RowKit YtodibpddlibneaaGreatDoorW.PrintWords YtodibpddlibneaaGreatDoorW.PrintLast H Go.Maps Q GSH
set_option linter.unusedVariables false
set_option linter.unusedSimpArgs false
theorem bind_of {α β : Type} {x : Option α} {a : α} {f : α → Option β} {r : Option β} (h : x = some a) (h2 : f a = r) : x.bind f = r:=by rw [h];exact h2
/-- a * b / c,rounded down,in a word. -/
def partQ (a b c : Int) : Int:=if c = 0 then 0 else a * b / c % 18446744073709551616
theorem VV {x : Int} : V (x / 18446744073709551616) (x % 18446744073709551616) = x:=by unfold V;omega
theorem hiU {a b : Int} (ha : U a) (hb : U b) : U (a * b / 18446744073709551616) ∧ U (a * b % 18446744073709551616):=by
  have:=mul_bd ha hb;generalize a * b = x at *;unfold U;omega
theorem part_f {a b c : Int} (ha : U a) (hb : U b) (hc : U c) : share_part.f 20 a b c = some (partQ a b c):=by
  unfold share_part.f partQ;refine bind_of (wmul ha hb) ?_
  by_cases h0 : c = 0
  · subst h0
    rw [if_pos rfl];exact bind_of (wdiv0 20) rfl
  · rw [if_neg h0]
    refine bind_of (wdiv 20 (by omega) (hiU ha hb).1 (hiU ha hb).2 hc h0) ?_;rw [VV]
theorem partQ_in {a b c : Int} : U (partQ a b c):=by
  unfold partQ U;split <;> omega
theorem part_calls (w : World) (a b c : Int) (ha : U a) (hb : U b) (hc : U c) : Calls Tryz.prog 73 #[.int .u64 a,.int .u64 b,.int .u64 c] w fun e w' => e = .returned (.int .u64 (partQ a b c)) ∧ w.grownBy w' none:=
  (share_part.calls 20 a b c _ w (part_f ha hb hc)).mono (fun e w' h => ⟨h.1,gb_of_below h.2 none⟩)
def floorV (N Q L A F S P H : Int) : Int:=if checkV N Q L A F S P H = 0 then N * P * 4294967296 else 0
theorem check_cfg {N Q L A F S P H : Int} (h : checkV N Q L A F S P H = 0) : inR N Q L A F S P H = true:=by
  unfold checkV at h
  by_cases c : inR N Q L A F S P H = true
  · exact c
  · rw [if_neg c] at h;cases h
theorem floor_bd {N Q L A F S P H : Int} (h : checkV N Q L A F S P H = 0) : 4294967296 ≤ N * P * 4294967296 ∧ N * P * 4294967296 ≤ 1152921504606846976:=by
  have C:=inR_cfg (check_cfg h)
  have:=area_bd C.n0 C.n1 C.p0 C.p1;omega
theorem floor_f (N Q L A F S P H : Int) : config_Floor.f 20 N Q L A F S P H = some (floorV N Q L A F S P H):=by
  unfold config_Floor.f floorV;refine bind_of (p_check 20 (by omega) N Q L A F S P H) ?_
  by_cases h : checkV N Q L A F S P H = 0
  · rw [if_pos h,if_pos h]
    refine bind_of (p_area (bds (inR_cfg (check_cfg h)))) ?_
    have:=floor_bd h;rw [w64_in (x:=N * P) (by omega) (by omega),w64_in (by omega) (by omega)]
  · rw [if_neg h,if_neg h]
theorem floor_calls (w : World) (a0 a1 a2 a3 a4 a5 a6 a7 : Int) : Calls Tryz.prog 72 #[.agg #[.int .i64 a0,.int .i64 a1,.int .i64 a2,.int .i64 a3,.int .i64 a4,.int .i64 a5,.int .i64 a6,.int .i64 a7]] w fun e w' => e = .returned (.int .u64 (floorV a0 a1 a2 a3 a4 a5 a6 a7)) ∧ w.grownBy w' none:=
  (config_Floor.calls 20 a0 a1 a2 a3 a4 a5 a6 a7 _ w (floor_f a0 a1 a2 a3 a4 a5 a6 a7)).mono (fun e w' h => ⟨h.1,gb_of_below h.2 none⟩)
theorem check_calls (w : World) (a0 a1 a2 a3 a4 a5 a6 a7 : Int) : Calls Tryz.prog 16 #[.agg #[.int .i64 a0,.int .i64 a1,.int .i64 a2,.int .i64 a3,.int .i64 a4,.int .i64 a5,.int .i64 a6,.int .i64 a7]] w fun e w' => e = .returned (.int .i64 (checkV a0 a1 a2 a3 a4 a5 a6 a7)) ∧ w.grownBy w' none:=
  (config_Check.calls 10 a0 a1 a2 a3 a4 a5 a6 a7 _ w (p_check 10 (by omega) a0 a1 a2 a3 a4 a5 a6 a7)).mono (fun e w' h => ⟨h.1,gb_of_below h.2 none⟩)
/-- A usage by a share,with 32 bits behind the point,rounded up;the greatest word at most. -/
def expQ (x n : Int) : Int:=if (x + n * 2147483648 - 1) / (n * 2147483648) < 18446744073709551616 then (x + n * 2147483648 - 1) / (n * 2147483648) else 18446744073709551615
def expV (u n d : Int) : Int:=if n * 4096 < d then expQ (u * 4096) 1 else expQ (u * d) n
theorem expQ_up {x n q r : Int} (hn : 0 < n) (hx : x = q * n + r) (hr0 : 0 ≤ r) (hr : r < n) : (x + n * 2147483648 - 1) / (n * 2147483648) = q / 2147483648 + (if r > 0 ∨ q % 2147483648 > 0 then 1 else 0):=by
  have hq : q = q / 2147483648 * 2147483648 + q % 2147483648:=by omega
  have hm0 : 0 ≤ q % 2147483648:=by omega
  have hm1 : q % 2147483648 < 2147483648:=by omega
  generalize q / 2147483648 = a at *;generalize q % 2147483648 = b at *;have hN : 0 < n * 2147483648:=by omega
  have hbn0 : 0 ≤ b * n:=Int.mul_nonneg hm0 (by omega);have hbn1 : b * n ≤ 2147483647 * n:=Int.mul_le_mul_of_nonneg_right (by omega) (by omega);have hbn2 : 0 < b → n ≤ b * n:=fun h => by
    have:=Int.mul_le_mul_of_nonneg_right (show (1 : Int) ≤ b by omega) (show 0 ≤ n by omega);omega
  have e1 : x = a * (n * 2147483648) + (b * n + r):=by
    rw [hx,hq,Int.add_mul,Int.mul_assoc,Int.mul_comm 2147483648 n];omega
  have hb00 : b = 0 → b * n = 0:=fun h => by rw [h,Int.zero_mul]
  generalize b * n = y at *
  by_cases c : r > 0 ∨ b > 0
  · rw [if_pos c]
    have e2 : x + n * 2147483648 - 1 = (y + r - 1) + (a + 1) * (n * 2147483648):=by rw [e1,Int.add_mul,Int.one_mul];omega
    rw [e2,Int.add_mul_ediv_right _ _ (by omega),Int.ediv_eq_zero_of_lt (by omega) (by omega)];omega
  · rw [if_neg c]
    have e2 : x + n * 2147483648 - 1 = (y + r + n * 2147483648 - 1) + a * (n * 2147483648):=by rw [e1];omega
    have hb0 : b = 0:=by omega
    have hy0 : y = 0:=hb00 hb0;rw [e2,Int.add_mul_ediv_right _ _ (by omega),Int.ediv_eq_zero_of_lt (by omega) (by omega)];omega
theorem shl33 {x : Int} (h : U x) : (IntKind.u64.wrap (x * 8589934592) > 0) ↔ x % 2147483648 > 0:=by
  rw [w64];obtain ⟨a,b⟩:=h;omega
theorem exp_j0 {x0 x1 x2 : Int} (h0 : U x0) (h1 : U x1) (h2 : U x2) (hp : 0 < x1) : share_exponent.j0 22 x0 x1 x2 = some (expQ (x0 * x2) x1):=by
  rw [share_exponent.j0];refine bind_of (wmul h0 h2) ?_;obtain ⟨u1,u2⟩:=hiU h0 h2;have hbd:=mul_bd h0 h2;refine bind_of (wdiv 21 (by omega) u1 u2 h1 (by omega)) ?_;rw [VV];obtain ⟨x,hx⟩ : ∃ x,x = x0 * x2:=⟨_,rfl⟩;rw [← hx] at hbd ⊢;obtain ⟨q,hq⟩ : ∃ q,q = x / x1:=⟨_,rfl⟩;obtain ⟨r,hr⟩ : ∃ r,r = x % x1:=⟨_,rfl⟩;have hxq : x = q * x1 + r:=by rw [hq,hr,Int.mul_comm];exact (Int.mul_ediv_add_emod x x1).symm
  have hr0 : 0 ≤ r:=by rw [hr];exact Int.emod_nonneg _ (by omega)
  have hr1 : r < x1:=by rw [hr];exact Int.emod_lt_of_pos _ hp
  have hq0 : 0 ≤ q:=by rw [hq];exact Int.ediv_nonneg hbd.1 (by omega)
  have hq1 : q ≤ x:=by rw [hq];exact Int.ediv_le_self _ hbd.1
  have hE:=expQ_up hp hxq hr0 hr1;unfold expQ;rw [← hq,← hr,hE];have U1 : U (q / 18446744073709551616):=by unfold U;omega
  have U2 : U (q % 18446744073709551616):=by unfold U;omega
  clear hq hr hE hx hxq h0 h1 h2 u1 u2;refine bind_of (wshr U1 U2 31 (by omega) (by omega)) ?_;have e31 : shrV (q / 18446744073709551616) (q % 18446744073709551616) 31 = (q / 2147483648 / 18446744073709551616,q / 2147483648 % 18446744073709551616):=by
    unfold shrV;refine Prod.ext ?_ ?_
    · show q / 18446744073709551616 / 2 ^ 31 = _
      omega
    · show q / 18446744073709551616 * 2 ^ (64 - 31) % 18446744073709551616 + q % 18446744073709551616 / 2 ^ 31 = _
      omega
  rw [e31];obtain ⟨e,he⟩ : ∃ e,e = q / 2147483648:=⟨_,rfl⟩;have hsh:=shl33 U2;rw [show q % 18446744073709551616 % 2147483648 = q % 2147483648 by omega] at hsh;rw [← he];have U3 : U (e / 18446744073709551616):=by unfold U;omega
  have U4 : U (e % 18446744073709551616):=by unfold U;omega
  have hb : 0 ≤ e ∧ e < 340282366920938463463374607431768211455:=by omega
  have key : ∀ b : Bool,share_exponent.j1 21 b (e / 18446744073709551616) (e % 18446744073709551616) = some (if e + (if b = true then 1 else 0) < 18446744073709551616 then e + (if b = true then 1 else 0) else 18446744073709551615):=by
    intro b;rw [share_exponent.j1]
    cases b
    · rw [if_neg (by decide)]
      simp only [Bool.false_eq_true,if_false,Int.add_zero]
      by_cases c : e < 18446744073709551616
      · rw [if_neg (by omega),if_pos c];congr 1;omega
      · rw [if_pos (by omega),if_neg c]
    · rw [if_pos rfl]
      simp only [if_true];refine bind_of (show wide_Of.f 1 = some (0,1) from rfl) ?_;refine bind_of (wadd U3 U4 ⟨by decide,by decide⟩ ⟨by decide,by decide⟩) ?_;rw [VV,show V 0 1 = 1 from rfl,show addV e 1 = ((e + 1) / 18446744073709551616,(e + 1) % 18446744073709551616,true) from if_pos (by omega)];dsimp only
      by_cases c : e + 1 < 18446744073709551616
      · rw [if_neg (by omega),if_pos c];congr 1;omega
      · rw [if_pos (by omega),if_neg c]
  dsimp only
  by_cases c : r > 0
  · rw [if_pos c,key true,if_pos rfl,if_pos (Or.inl c)]
  · rw [if_neg c]
    by_cases c2 : q % 2147483648 > 0
    · rw [show (decide (IntKind.u64.wrap (q % 18446744073709551616 * 8589934592) > 0)) = true from dT (hsh.2 c2),key true,if_pos rfl,if_pos (Or.inr c2)]
    · rw [show (decide (IntKind.u64.wrap (q % 18446744073709551616 * 8589934592) > 0)) = false from dF (fun h => c2 (hsh.1 h)),key false,if_neg (show ¬ (r > 0 ∨ q % 2147483648 > 0) by omega)]
      simp only [Bool.false_eq_true,if_false]
theorem exp_f {u n d : Int} (hu : U u) (hn : U n) (hd : U d) (hp : 0 < n) : share_exponent.f 22 u n d = some (expV u n d):=by
  unfold share_exponent.f;refine bind_of (wmul hn ⟨by decide,by decide⟩) ?_;refine bind_of (show wide_Of.f d = some (0,d) from rfl) ?_;refine bind_of (wcmp (hiU hn ⟨by decide,by decide⟩).2 hd) ?_;rw [VV,show V 0 d = d by unfold V;omega];unfold cmpV expV
  by_cases c : n * 4096 < d
  · rw [if_pos c,if_pos c,if_pos (by decide)]
    exact exp_j0 hu ⟨by decide,by decide⟩ ⟨by decide,by decide⟩ (by decide)
  · rw [if_neg c,if_neg c]
    by_cases c2 : n * 4096 = d
    · rw [if_pos c2,if_neg (by decide)];exact exp_j0 hu hn hd hp
    · rw [if_neg c2,if_neg (by decide)];exact exp_j0 hu hn hd hp
theorem expQ_in {x n : Int} (hx : 0 ≤ x) (hn : 0 < n) : U (expQ x n):=by
  unfold expQ;have : 0 ≤ (x + n * 2147483648 - 1) / (n * 2147483648):=Int.ediv_nonneg (by omega) (by omega);unfold U;split <;> omega
theorem expV_in {u n d : Int} (hu : U u) (hn : U n) (hd : U d) (hp : 0 < n) : U (expV u n d):=by
  unfold expV;split
  · exact expQ_in (by have:=hu.1;omega) (by decide)
  · exact expQ_in (Int.mul_nonneg hu.1 hd.1) hp
theorem exponent_calls (w : World) (u n d : Int) (hu : U u) (hn : U n) (hd : U d) (hp : 0 < n) : Calls Tryz.prog 41 #[.int .u64 u,.int .u64 n,.int .u64 d] w fun e w' => e = .returned (.int .u64 (expV u n d)) ∧ w.grownBy w' none:=
  (share_exponent.calls 22 u n d _ w (exp_f hu hn hd hp)).mono (fun e w' h => ⟨h.1,gb_of_below h.2 none⟩)
def halfV (e : Int) : Int:=((HH e.toNat : Nat) : Int)
theorem half_calls (w : World) (hL : LaidW w) (e : Int) (he : U e) : Calls Tryz.prog 40 #[.int .u64 e] w fun q w' => q = .returned (.int .u64 (halfV e)) ∧ w.grownBy w' none:=
  (ladder_Half.calls e _ w hL (half_i he)).mono (fun e w' h => ⟨h.1,gb_of_below h.2 none⟩)
end Go.Proofs.YtodibpddlibneaaGreatDoor.T
namespace Go.Proofs.YtodibpddlibneaaGreatDoor.T
open Go.RowKit YtodibpddlibneaaGreatDoorW.PrintWords YtodibpddlibneaaGreatDoorW.PrintLast H Go.Maps Q
set_option linter.unusedVariables false
set_option linter.unusedSimpArgs false
theorem wrapU (x : Int) : U (IntKind.u64.wrap x):=by unfold U;rw [w64];omega
theorem UONE : U 9223372036854775808:=⟨by decide,by decide⟩
theorem sisV_in (ls : List Acc) (ks : List Int) : U (sisV ls ks):=by
  have key : ∀ (ks : List Int) (s : Int),U s → U (ks.foldl (fun s k => IntKind.u64.wrap (s + IntKind.u64.wrap (shV ls k))) s):=by
    intro ks
    induction ks with
    | nil => exact fun s h => h
    | cons k r ih => exact fun s h => ih _ (wrapU _)
  exact key ks 0 ⟨by decide,by decide⟩
/-- What one child's turn writes ahead of its own walk. -/
def setE (ls : List Acc) (ss : List Int) (W : Int) (p : Int) (st : List Int) (i : Int) : List Int:=
  st.set i.toNat (IntKind.u64.wrap (partQ (rd ss i) 9223372036854775808 W + partQ (IntKind.u64.wrap (rd st p - partQ (rd ss i) 9223372036854775808 W)) (IntKind.u64.wrap (shV ls i)) (sisV ls (kidsV ls p ls.length))))
def foldE (g : Int → List Int → List Int) (ls : List Acc) (ss : List Int) (W : Int) (p : Int) (ks : List Int) (st : List Int) : List Int:=ks.foldl (fun s i => g i (setE ls ss W p s i)) st
/-- What stands while the effective usages are written. -/
structure She (w : World) (P : Nat) (f : Nat → Int) (kb m : Nat) (D : DataW Value) (ls : List Acc) (ad : Addr) (n c g1 g2 g4 g5 ob : Nat) (fv : Value) (T5 : TypeId) (g3 g6 sb R : Nat) (ss : List Int) (W : Int) : Prop where
  s : Shu w P f kb m D ls ad n c g1 g2 g4 g5 ob fv T5
  b3 : w.heap[g3]? = some (.cells #[.slice (some ⟨sb,0,none⟩) n n] 42 (0,0))
  b6 : w.heap[g6]? = some (.cells #[.int .u64 W] 29 (0,0))
  sr : w.ownsRow R 29 (Ei .u64).sz (.slice (some ⟨sb,0,none⟩) n n) n (flat (Ei .u64) ss)
  f3 : f g3 = 2
  f6 : f g6 = 2
  fs : f sb = 3
theorem She.tn {w w' : World} {P : Nat} {f : Nat → Int} {kb m : Nat} {D : DataW Value} {ls : List Acc} {ad : Addr} {n c g1 g2 g4 g5 ob : Nat} {fv : Value} {T5 : TypeId} {g3 g6 sb R : Nat} {ss : List Int} {W : Int} (h : She w P f kb m D ls ad n c g1 g2 g4 g5 ob fv T5 g3 g6 sb R ss W) (t : Tn w w' (F0 f)) : She w' P f kb m D ls ad n c g1 g2 g4 g5 ob fv T5 g3 g6 sb R ss W:=
  ⟨h.s.tn t,blk_tn h.b3 t (fun hF => by have:=h.f3;unfold F0 at hF;omega),blk_tn h.b6 t (fun hF => by have:=h.f6;unfold F0 at hF;omega),own_tn h.sr t (fun k hk hF => by cases hk;have h1:=h.fs;have h2 : f sb = 0:=hF;omega),h.f3,h.f6,h.fs⟩
/-- What one walk answers and leaves. -/
def EffI (w : World) (Q : Nat) (f : Nat → Int) (n ob : Nat) (st : List Int) (e : Ending) (w' : World) : Prop:=
  e = .returned (.tuple #[]) ∧ st.length = n ∧ w'.ownsRow Q 29 (Ei .u64).sz (.slice (some ⟨ob,0,none⟩) n n) n (flat (Ei .u64) st) ∧ Tn w w' (F0 f)
def capsE (g1 g2 g3 g6 g4 g5 : Nat) : Array Value:=#[.pointer (some ⟨g1,0,none⟩),.pointer (some ⟨g2,0,none⟩),.pointer (some ⟨g3,0,none⟩),.pointer (some ⟨g6,0,none⟩),.pointer (some ⟨g4,0,none⟩),.pointer (some ⟨g5,0,none⟩)]
theorem eff_walk (P Q R : Nat) (f : Nat → Int) (kb m : Nat) (D : DataW Value) (ls : List Acc) (ad : Addr) (n c g1 g2 g3 g6 g4 g5 ob sb : Nat) (ss : List Int) (W : Int) (hsl : ss.length = n) (hsu : ∀ i,U (rd ss i)) (hW : U W) (g : Int → List Int → List Int) (p : Nat) (hpn : p < n)
    (hin : ∀ k ∈ kidsV ls (p : Int) n,0 ≤ k ∧ k < n)
    (IH : ∀ i ∈ kidsV ls (p : Int) n,∀ (w : World) (st : List Int),She w P f kb m D ls ad n c g1 g2 g4 g5 ob (.func (.func 74) #[] (capsE g1 g2 g3 g6 g4 g5)) 109 g3 g6 sb R ss W → st.length = n → w.ownsRow Q 29 (Ei .u64).sz (.slice (some ⟨ob,0,none⟩) n n) n (flat (Ei .u64) st) →
      Calls Tryz.prog 74 (#[.int .i64 i] ++ capsE g1 g2 g3 g6 g4 g5) w (EffI w Q f n ob (g i st)))
    (w : World) (st : List Int) (hs : She w P f kb m D ls ad n c g1 g2 g4 g5 ob (.func (.func 74) #[] (capsE g1 g2 g3 g6 g4 g5)) 109 g3 g6 sb R ss W) (h1 : st.length = n)
    (ho : w.ownsRow Q 29 (Ei .u64).sz (.slice (some ⟨ob,0,none⟩) n n) n (flat (Ei .u64) st)) :
    Calls Tryz.prog 74 (#[.int .i64 p] ++ capsE g1 g2 g3 g6 g4 g5) w (EffI w Q f n ob (foldE g ls ss W (p : Int) (kidsV ls (p : Int) n) st)):=by
  have HLS:=Am (show ls.length = n from hs.s.rd.1);have hn64:=hs.s.rd.2.1;have hpn2 : (p : Int) < (n : Int):=by omega
  have hpw : (Lit.int .i64 (p : Int)).wf = true:=i64_wf (by omega) (by omega);obtain ⟨A,cc,hat,hrow,hlab⟩:=hs.s.km.rows (p : Int) (by omega) hpw;rw [HLS.out] at hat hrow hlab;have hlk:=look_of hs.s.km.own hpw hat;obtain ⟨ks,hks⟩ : ∃ ks,ks = kidsV ls (p : Int) n:=⟨_,rfl⟩;have HKS:=Am hks;rw [← hks] at hin IH hat hrow hlab hlk ⊢;obtain ⟨r,hr⟩ : ∃ r,r = ks.length:=⟨_,rfl⟩;have HRL:=Am hr;rw [← hr] at hat hrow hlab hlk;have HB:=Am hrow;have HLB:=Am hlab;obtain ⟨A',c',he,hrk,-,-⟩:=own_open hr.symm hrow;injection he with e1 e2 e3;subst e1 e3;have HRK:=Am hrk;have hr64:=hrk.2.1;have HSI:=Am (sisters_calls w ad n c ls A r cc ks hs.s.rd hrk hin);have HIN:=Am hin;have HIH:=Am IH;have HS:=Am hs;have HO:=Am ho;have HL1:=Am h1;have HSL:=Am hsl;have HSU:=Am hsu;have HUW:=Am hW;have k1:=cell_of (j:=0) hs.s.b1 rfl;have k2:=cell_of (j:=0) hs.s.b2 rfl;clear hrow hlab hat hks hr hrk hin IH hs ho h1 hpw hsl hsu hW;show Calls Tryz.prog 74 #[.int .i64 p,.pointer (some ⟨g1,0,none⟩),.pointer (some ⟨g2,0,none⟩),.pointer (some ⟨g3,0,none⟩),.pointer (some ⟨g6,0,none⟩),.pointer (some ⟨g4,0,none⟩),.pointer (some ⟨g5,0,none⟩)] w _;go_enter Tryz.func74,Tryz.ntmps74;go_wp2_with fail
  refine (HSI.out).mono ?_;rintro e w1 ⟨rfl,rfl⟩;obtain ⟨all,hall⟩ : ∃ all,all = sisV ls ks:=⟨_,rfl⟩;have HALL:=Am hall;have HUA:=Am (show U all by rw [hall];exact sisV_in ls ks);rw [← hall];clear hall HSI;go_wp2_with fail
  go_loopg [21] r (fun k v21 wr => ∃ (j : Nat) (s : List Int),v21 = .int .i64 j ∧ Aside0 (j + k = r) ∧ j ≤ r ∧ Aside0 (foldE g ls ss W (p : Int) (ks.take j) st = s) ∧ Aside0 (s.length = n) ∧ Aside0 (wr.ownsRow Q 29 (Ei .u64).sz (.slice (some ⟨ob,0,none⟩) n n) n (flat (Ei .u64) s)) ∧ Aside0 (Tn w wr (F0 f)))
  case atStart => exact ⟨0,st,rfl,⟨by omega⟩,by omega,⟨rfl⟩,HL1,HO,⟨Tn.refl _ _⟩⟩
  case round =>
    clear HO HL1 k1 k2 hlk;obtain ⟨j,s,rfl,HDJ,hj,HE,HLN,HN,HT⟩:=hrel
    cases gk with
    | zero =>
      obtain rfl : j = r:=by have:=HDJ.out;omega
      go_wp2
      go_end0
      refine ⟨rfl,?_⟩;have hE:=HE.out;rw [List.take_of_length_le (by rw [HRL.out];exact Nat.le_refl _)] at hE;rw [hE];exact ⟨HLN.out,HN.out,HT.out⟩
    | succ d =>
      have hlt : j < r:=by have:=HDJ.out;omega
      have hlt1 : decide ((j : Int) < (r : Int)) = true:=dT (by omega);have hji : (j : Int) < (r : Int):=by omega
      have hjl : j < ks.length:=by rw [← HRL.out];exact hlt
      have HS1:=Am (HS.out.tn HT.out);have HRK1:=Am (HRK.out.tn HT.out (fun a ha h0 hF => by
        subst ha;have h3:=HLB.out a.block;have hform:=(own_form HB.out).2 a rfl;rw [hform] at h3;have h4:=h3 rfl;simp at h4;unfold F0 at hF;omega))
      obtain ⟨bd,rfl,hcj⟩:=HRK1.out.int j hlt;have hmem : rd ks (j : Int) ∈ ks:=by
        have : rd ks (j : Int) = ks[j]:=by simp [rd,List.getD_eq_getElem?_getD,lG hjl]
        rw [this];exact List.getElem_mem hjl
      obtain ⟨hq0,hq1⟩:=HIN.out _ hmem;have HCI:=HIH.out _ hmem;obtain ⟨q,hq⟩ : ∃ q : Nat,rd ks (j : Int) = q:=⟨(rd ks (j : Int)).toNat,by omega⟩;have HST:=Am (show foldE g ls ss W (p : Int) (ks.take (j + 1)) st = g (q : Int) (setE ls ss W (p : Int) s (q : Int)) by rw [take_snoc hjl,hq,← HE.out];unfold foldE;rw [List.foldl_append];rfl);rw [hq] at hcj HCI;have HCQ:=Am HCI;have HUS:=Am (HSU.out (q : Int));have hqn : q < n:=by omega
      have hqn2 : (q : Int) < (n : Int):=by omega
      clear hmem hq0 hq1 hq HCI;go_upto_region 4 with (fail)
      have HSd:=Am (HS1.out.tn (Tn.drew wr _));refine start_ (n:=7) (S:=fun w' => w'.cell? ⟨g3,0,none⟩ = some (.slice (some ⟨sb,0,none⟩) n n) ∧ w'.cell? ⟨sb,q,none⟩ = some (.int .u64 (rd ss (q : Int))) ∧ w'.cell? ⟨g6,0,none⟩ = some (.int .u64 W)) (ds:=[]) #[nn,nn,nn,nn,nn,nn,nn] (by kernel_rfl) rfl rfl ⟨cell_of (j:=0) HSd.out.b3 rfl,num_cell HSd.out.sr hqn HSL.out,cell_of (j:=0) HSd.out.b6 rfl⟩ (fun hHeld => ?_);refine pu_ 1 (some 26) (bm 7 2) (by kernel_rfl) ?_;refine tk_ 0 (some 25) (bm 7 3) (by kernel_rfl) hHeld ?_;refine pu_ 2 (some 27) (bm 7 7) (by kernel_rfl) ?_;refine tk_ 3 (some 28) (bm 7 15) (by kernel_rfl) hHeld ?_;refine tk_ 4 (some 29) (bm 7 31) (by kernel_rfl) hHeld ?_;refine one_ (i:=5) (N:=some 30) (bm 7 63) rfl rfl (by kernel_rfl) (by decide) (fun K hK => ?_);refine goes_ Tryz.func73 (by kernel_rfl) rfl #[.int .u64 (rd ss (q : Int)),.int .u64 9223372036854775808,.int .u64 W] (by rfl) rfl rfl (by simp only [List.map_toArray,List.map_cons,List.map_nil];try rfl) ?_;with_reducible refine ((part_calls _ _ _ _ HUS.out UONE HUW.out)).mono ?_
      rintro e w41 ⟨rfl,hg⟩;refine ⟨_,rfl,?_⟩;have HG41:=Am hg;refine hK.out _ _ ⟨hg.cell hHeld.1 (by simp),hg.cell hHeld.2.1 (by simp),hg.cell hHeld.2.2 (by simp)⟩ (fun hHeld => ?_);clear hK K;refine norm_ (a':=?_) ?_ ?_
      rotate_left
      · show Act.put _ (some 30) _ = _
        simp only [NR];rfl
      refine pu_ 6 (some 11) (bm 7 127) (by kernel_rfl) ?_;refine done_ (by kernel_rfl) ?_;have HSe:=Am ((HSd.out.tn (Tn.gb0 HG41.out _)).tn (Tn.drew w41 _));have HOe:=Am (own_kept (own_kept (own_kept HN.out (gb_drew wr none) (by simp)) HG41.out (by simp)) (gb_drew w41 none) (by simp));have HTe:=Am (((HT.out.trans' (Tn.drew wr _)).trans' (Tn.gb0 HG41.out _)).trans' (Tn.drew w41 _));obtain ⟨u,hu⟩ : ∃ u,u = partQ (rd ss (q : Int)) 9223372036854775808 W:=⟨_,rfl⟩;have HUU:=Am hu;rw [← hu];clear hu HSd HG41;go_upto_region 5 with (fail)
      refine start_ (n:=20) (S:=fun w' => w'.cell? ⟨g4,0,none⟩ = some (.slice (some ⟨ob,0,none⟩) n n) ∧ w'.cell? ⟨ob,p,none⟩ = some (.int .u64 (rd s (p : Int))) ∧ w'.cell? ⟨g1,0,none⟩ = some (.slice (some ad) n c) ∧ w'.cell? ⟨(ad.add (q * 5)).block,(ad.add (q * 5)).off + 2,none⟩ = some (.int .i64 (shV ls (q : Int)))) (ds:=[19]) #[nn,nn,nn,nn,nn,nn,nn,nn,nn,nn,nn,nn,nn,nn,nn,nn,nn,nn,nn,nn] (by kernel_rfl) rfl rfl ⟨cell_of (j:=0) HSe.out.s.b4 rfl,num_cell HOe.out hpn HLN.out,cell_of (j:=0) HSe.out.s.b1 rfl,sh_cell HSe.out.s.rd hqn⟩ (fun hHeld => ?_);refine pu_ 1 (some 32) (bm 20 2) (by kernel_rfl) ?_;refine pu_ 2 (some 33) (bm 20 6) (by kernel_rfl) ?_;refine pu_ 4 (some 35) (bm 20 22) (by kernel_rfl) ?_;refine pu_ 7 (some 38) (bm 20 150) (by kernel_rfl) ?_;refine pu_ 10 (some 41) (bm 20 1174) (by kernel_rfl) ?_;refine pu_ 15 (some 46) (bm 20 33942) (by kernel_rfl) ?_;refine tk_ 0 (some 31) (bm 20 33943) (by kernel_rfl) hHeld ?_;refine tk_ 3 (some 34) (bm 20 33951) (by kernel_rfl) hHeld ?_;refine pu_ 5 (some 36) (bm 20 33983) (by kernel_rfl) ?_;refine tk_ 6 (some 37) (bm 20 34047) (by kernel_rfl) hHeld ?_;refine pu_ 8 (some 39) (bm 20 34303) (by kernel_rfl) ?_;refine tk_ 9 (some 40) (bm 20 34815) (by kernel_rfl) hHeld ?_;refine pu_ 11 (some 42) (bm 20 36863) (by kernel_rfl) ?_;refine pu_ 12 (some 43) (bm 20 40959) (by kernel_rfl) ?_;refine tk_ 13 (some 44) (bm 20 49151) (by kernel_rfl) hHeld ?_;refine pu_ 14 (some 45) (bm 20 65535) (by kernel_rfl) ?_;refine one_ (i:=16) (N:=some 47) (bm 20 131071) rfl rfl (by kernel_rfl) (by decide) (fun K hK => ?_);refine goes_ Tryz.func73 (by kernel_rfl) rfl #[.int .u64 (IntKind.u64.wrap (rd s (p : Int) - u)),.int .u64 (IntKind.u64.wrap (shV ls (q : Int))),.int .u64 all] (by rfl) rfl rfl (by simp only [List.map_toArray,List.map_cons,List.map_nil];try rfl) ?_;with_reducible refine ((part_calls _ _ _ _ (wrapU _) (wrapU _) HUA.out)).mono ?_
      rintro e w43 ⟨rfl,hg⟩;refine ⟨_,rfl,?_⟩;have HO43:=Am (own_kept HOe.out hg (by simp));have HG43:=Am hg;have hcq:=num_cell HO43.out hqn HLN.out;have hfq:=own_frozen HO43.out q;refine hK.out _ _ ⟨hg.cell hHeld.1 (by simp),hg.cell hHeld.2.1 (by simp),hg.cell hHeld.2.2.1 (by simp),hg.cell hHeld.2.2.2 (by simp)⟩ (fun hHeld => ?_);clear hK K;refine norm_ (a':=?_) ?_ ?_
      rotate_left
      · show Act.put _ (some 47) _ = _
        simp only [NR];rfl
      refine pu_ 17 (some 48) (bm 20 262143) (by kernel_rfl) ?_;refine pu_ 18 (some 49) (bm 20 524287) (by kernel_rfl) ?_;refine last_ (i:=19) (N:=none) (bm 20 1048575) rfl rfl (by kernel_rfl) (by decide) (fun K hK => ?_);refine skip_ (w1:=?_) (by rfl) rfl ?_ ?_
      rotate_left
      · go_simp
        rfl
      refine hK.out _ _ ?_;clear hK K;refine done_ (by kernel_rfl) ?_;obtain ⟨X,hX⟩ : ∃ X,X = IntKind.u64.wrap (u + partQ (IntKind.u64.wrap (rd s (p : Int) - u)) (IntKind.u64.wrap (shV ls (q : Int))) all):=⟨_,rfl⟩;have HXY:=Am (show setE ls ss W (p : Int) s (q : Int) = s.set q X by rw [hX,HUU.out,HALL.out,HKS.out,← HLS.out];rfl);rw [← hX];have HN3:=Am (num_put HO43.out hqn HLN.out X);have HT3:=Am ((HTe.out.trans' (Tn.gb0 HG43.out _)).trans' (Tn.set (F:=F0 f) ob q (.int .u64 X) HS1.out.s.fo));clear hX hcq hfq hcj;generalize w43.setCell ⟨ob,q,none⟩ (.int .u64 X) = w3 at HN3 HT3 ⊢;have HS3:=Am (HS.out.tn HT3.out);have hc5:=cell_of (j:=0) HS3.out.s.b5 rfl;go_wp2_with fail
      refine (HCQ.out w3 (setE ls ss W (p : Int) s (q : Int)) HS3.out (by rw [HXY.out];simpa using HLN.out) (by rw [HXY.out];exact HN3.out)).mono ?_;rintro e w4 ⟨rfl,e1,e3,e5⟩;have HE1:=Am e1;have HE3:=Am e3;have HE5:=Am e5;clear e1 e3 e5 HCQ hc5;go_wp2_with fail
      go_roundg d
      case measure => omega
      case rel => exact ⟨j + 1,_,by go_num,⟨by have:=HDJ.out;omega⟩,by omega,⟨HST.out⟩,HE1,HE3,⟨HT3.out.trans' HE5.out⟩⟩
/-- What the walk down from p writes,as far as k deep. -/
def effS (ls : List Acc) (ss : List Int) (W : Int) : Nat → Int → List Int → List Int
  | 0,_,st => st
  | k + 1,p,st => foldE (effS ls ss W k) ls ss W p (kidsV ls p ls.length) st
theorem eff_calls (P Q R : Nat) (f : Nat → Int) (kb m : Nat) (D : DataW Value) (ls : List Acc) (ad : Addr) (n c g1 g2 g3 g6 g4 g5 ob sb : Nat) (ss : List Int) (W : Int) (hsl : ss.length = n) (hsu : ∀ i,U (rd ss i)) (hW : U W) (t : Tree ls) (hln : ls.length = n) :
    ∀ (k : Nat) (p : Int),0 ≤ p → p < n → 5 ≤ depV ls p + k → ∀ (w : World) (st : List Int),She w P f kb m D ls ad n c g1 g2 g4 g5 ob (.func (.func 74) #[] (capsE g1 g2 g3 g6 g4 g5)) 109 g3 g6 sb R ss W → st.length = n → w.ownsRow Q 29 (Ei .u64).sz (.slice (some ⟨ob,0,none⟩) n n) n (flat (Ei .u64) st) →
      Calls Tryz.prog 74 (#[.int .i64 p] ++ capsE g1 g2 g3 g6 g4 g5) w (EffI w Q f n ob (effS ls ss W k p st)):=by
  intro k
  induction k with
  | zero => intro p h0 h1 hk;have:=(t.dep p.toNat (by omega)).2;rw [Int.toNat_of_nonneg h0] at this;omega
  | succ k ih =>
    intro p h0 h1 hk w st hs l1 o1;obtain ⟨q,rfl⟩ : ∃ q : Nat,p = q:=⟨p.toNat,by omega⟩;rw [effS,hln];refine eff_walk P Q R f kb m D ls ad n c g1 g2 g3 g6 g4 g5 ob sb ss W hsl hsu hW (effS ls ss W k) q (by omega) (fun i hi => by rw [← hln] at hi ⊢;have:=t.kid h0 hi;omega) (fun i hi w' st' h l1' o1' => ?_) w st hs l1 o1;rw [← hln] at hi;obtain ⟨a,b,c',d⟩:=t.kid h0 hi;exact ih i (by omega) (by omega) (by omega) w' st' h l1' o1'
/-- An account's effective usage: from its parent's. -/
def efG (ls : List Acc) (ss : List Int) (W : Int) (i : Int) (x : Int) : Int:=
  IntKind.u64.wrap (partQ (rd ss i) 9223372036854775808 W + partQ (IntKind.u64.wrap (x - partQ (rd ss i) 9223372036854775808 W)) (IntKind.u64.wrap (shV ls i)) (sisV ls (kidsV ls (parV ls i) ls.length)))
def effV (ls : List Acc) (W : Int) (i : Int) : Int:=clm (partQ (rd (sumsV ls) 0) 9223372036854775808 W) (efG ls (sumsV ls) W) ls 4 i
def effsV (ls : List Acc) (W : Int) : List Int:=(List.range ls.length).map (fun i : Nat => effV ls W (i : Int))
theorem eff_gives {ls : List Acc} (t : Tree ls) (W : Int) : effS ls (sumsV ls) W 5 0 ((List.replicate ls.length (0 : Int)).set 0 (partQ (rd (sumsV ls) 0) 9223372036854775808 W)) = effsV ls W:=by
  have hp:=t.pos;have h0 : rd ((List.replicate ls.length (0 : Int)).set 0 (partQ (rd (sumsV ls) 0) 9223372036854775808 W)) 0 = effV ls W 0:=by
    have:=rd_set_eq (xs:=List.replicate ls.length (0 : Int)) (q:=0) (y:=partQ (rd (sumsV ls) 0) 9223372036854775808 W) (by simpa using hp);simpa [effV,clm_root] using this
  obtain ⟨a,b,c⟩:=down_ok (ls:=ls) (fun p s i => setE ls (sumsV ls) W p s i) (fun s i => rd s i = effV ls W i) (fun s => s.length = ls.length) (effS ls (sumsV ls) W) (fun p s => rfl) (fun k p s => rfl)
    (fun p s i h0 hi hok hinv => by
      obtain ⟨k0,k1,k2,k3⟩:=t.kid h0 hi;obtain ⟨q,rfl⟩ : ∃ q : Nat,i = q:=⟨i.toNat,by omega⟩;have e : effV ls W (q : Int) = efG ls (sumsV ls) W (q : Int) (rd s p):=by
        rw [show effV ls W (q : Int) = efG ls (sumsV ls) W (q : Int) (effV ls W (parV ls (q : Int))) from clm_step t k0 k1,k2,← hok]
      unfold efG at e;rw [k2] at e;refine ⟨by simp [setE,hinv],?_,fun j hj => ?_⟩
      · unfold setE
        rw [Int.toNat_natCast,rd_set_eq (by omega),e]
      · by_cases hjq : j.toNat = q
        · unfold setE
          by_cases hj0 : 0 ≤ j
          · obtain rfl : j = q:=by omega
            rw [Int.toNat_natCast,rd_set_eq (by omega),e]
          · exfalso;omega
        · unfold setE
          simp only [Int.toNat_natCast,rd,List.getD_eq_getElem?_getD];rw [List.getElem?_set_ne (fun h => hjq h.symm)];simpa [rd,List.getD_eq_getElem?_getD] using hj)
    5 0 _ (by omega) h0 (by simp)
  refine list_of_rd (F:=fun i => effV ls W i) a fun i hi => ?_
  rcases rch_all t 5 (i : Int) (by omega) (by omega) (by have:=t.dep i hi;omega) with e | e
  · rw [e];exact b 0 h0
  · exact c _ e
/-- A nought in a cell of its own. -/
def New1 (w w' : World) (g : Nat) : Prop:=w'.heap[g]? = some (.cells #[.int .u64 0] 29 (0,0)) ∧ w.heap.size ≤ g ∧ w.grownBy w' none
theorem new1_a {w w1 : World} (h : w.drew.grownBy w1 none) : New1 w (w1.alloc (.cells #[.int .u64 0] 29)) w1.heap.size:=
  ⟨heap_alloc_new w1 _,h.size,gT (gT (gb_drew w none) h) (gA w1 _ none)⟩
theorem new1_b {w w1 : World} (h : (w.drew.alloc (.cells #[.int .u64 0] 29)).grownBy w1 none) : New1 w w1 w.heap.size:=
  ⟨blk_kept (heap_alloc_new w.drew _) h (by simp),Nat.le_refl _,gT (gb_drew w none) (gT (gA w.drew _ none) h)⟩
/-- The whole: what all have used,or Floor. -/
def wholeV (ls : List Acc) (F : Int) : Int:=if rd (sumsV ls) 0 < F then F else rd (sumsV ls) 0
/-- What Effective answers: nothing,or the effective usages in a list of one's own. -/
def EffectI (w : World) (C F : Int) (ls : List Acc) (e : Ending) (w' : World) : Prop:=
  w.grownBy w' none ∧ (((loadE ls ≠ 0 ∨ C ≠ 0) ∧ e = .returned (.slice none 0 0)) ∨
    (loadE ls = 0 ∧ C = 0 ∧ ∃ ob,e = .returned (.slice (some ⟨ob,0,none⟩) ls.length ls.length) ∧
      w'.ownsRow w.heap.size 29 (Ei .u64).sz (.slice (some ⟨ob,0,none⟩) ls.length ls.length) ls.length (flat (Ei .u64) (effsV ls (wholeV ls F)))))
theorem Effective_calls (w : World) (a0 a1 a2 a3 a4 a5 a6 a7 : Int) (A : Option Addr) (n c : Nat) (ls : List Acc) (hr : Rd Ec w A n ls) (hc : n ≤ c) (hok : AccOk ls) (hus : AccU ls) :
    Calls Tryz.prog 38 #[.agg #[.int .i64 a0,.int .i64 a1,.int .i64 a2,.int .i64 a3,.int .i64 a4,.int .i64 a5,.int .i64 a6,.int .i64 a7],.slice A n c] w (EffectI w (checkV a0 a1 a2 a3 a4 a5 a6 a7) (floorV a0 a1 a2 a3 a4 a5 a6 a7) ls):=by
  have hlen:=hr.2.1;have HR:=Am hr;have HN:=Am hr.1;have HUS:=Am hus;have HK : Aside0 (∀ W : World,Rd Ec W A n ls → Calls Tryz.prog 70 #[.slice A n c] W (KidsI W ls)):=⟨fun W h => by
    cases ls with
    | nil => obtain rfl : n = 0:=h.1.symm;exact kids_nil W A c
    | cons x r =>
      obtain ⟨ad,e,_⟩:=h.2.2 (by have:=h.1;simp at this;omega);subst e;exact kids_calls W ad n c x r h hc hok⟩
  obtain ⟨C,hC⟩ : ∃ C,C = checkV a0 a1 a2 a3 a4 a5 a6 a7:=⟨_,rfl⟩;have HCV:=Am hC;obtain ⟨F,hF⟩ : ∃ F,F = floorV a0 a1 a2 a3 a4 a5 a6 a7:=⟨_,rfl⟩;have HFV:=Am hF;rw [← hC,← hF];clear hr hc hok hus hC hF;go_enter Tryz.func38,Tryz.ntmps38;go_upto_region 1 with (fail)
  obtain ⟨g7,hg7⟩ : ∃ g,g = w.heap.size:=⟨_,rfl⟩;obtain ⟨g1,hg1⟩ : ∃ g,g = w.heap.size + 1:=⟨_,rfl⟩;have e2:=gA (w.alloc (.cells #[.int .i64 a0,.int .i64 a1,.int .i64 a2,.int .i64 a3,.int .i64 a4,.int .i64 a5,.int .i64 a6,.int .i64 a7] 23)) (.cells #[.slice A n c] 24) none;have e1:=gA w (.cells #[.int .i64 a0,.int .i64 a1,.int .i64 a2,.int .i64 a3,.int .i64 a4,.int .i64 a5,.int .i64 a6,.int .i64 a7] 23) none;have HG1:=Am (gT e1 e2);have HX7:=Am (blk_kept (heap_alloc_new w (.cells #[.int .i64 a0,.int .i64 a1,.int .i64 a2,.int .i64 a3,.int .i64 a4,.int .i64 a5,.int .i64 a6,.int .i64 a7] 23)) e2 (by simp));have HX1:=Am (heap_alloc_new (w.alloc (.cells #[.int .i64 a0,.int .i64 a1,.int .i64 a2,.int .i64 a3,.int .i64 a4,.int .i64 a5,.int .i64 a6,.int .i64 a7] 23)) (.cells #[.slice A n c] 24));simp only [World.size_alloc] at HX1;have HZ1:=Am (show g7 = w.heap.size ∧ g1 = w.heap.size + 1 from ⟨hg7,hg1⟩);rw [← hg7] at HX7;rw [← hg1] at HX1;rw [← hg1,← hg7];clear e1 e2 hg1 hg7;generalize (w.alloc (.cells #[.int .i64 a0,.int .i64 a1,.int .i64 a2,.int .i64 a3,.int .i64 a4,.int .i64 a5,.int .i64 a6,.int .i64 a7] 23)).alloc (.cells #[.slice A n c] 24) = w1 at HG1 HX1 HX7 ⊢;have HZW:=Am (And.intro (blk_lt' HX1.out) (blk_lt' HX7.out));have k1:=cell_of (j:=0) HX1.out rfl;go_wp2_with fail
  refine (HK.out w1 (HR.out.gb HG1.out)).mono ?_;rintro e w2 ⟨hg,h⟩;have HG2:=Am hg;have HX1b:=Am (blk_kept HX1.out hg (by simp));have HX7b:=Am (blk_kept HX7.out hg (by simp));clear hg k1 HX1 HX7 HK;rcases h with ⟨hne,rfl⟩ | ⟨h0,kb,m,D,f,rfl,hkm,hlow⟩
  · have HNE:=Am hne
    clear hne;go_wp2;go_ret;exact ⟨gT (gT HG1.out HG2.out) (gA w2 (.cells #[.map none] 105) none),.inl ⟨.inl HNE.out,rfl⟩⟩
  · obtain ⟨f1,hf1⟩ : ∃ f1 : Nat → Int,f1 = fun k => if k < w2.heap.size then f k else -1:=⟨_,rfl⟩
    replace hkm:=hkm.relab2 (g:=f1) (fun k h1 _ => by rw [hf1];exact if_pos h1);replace hlow : ∀ k,k < w1.heap.size → f1 k = -1000:=fun k hk => by
      rw [hf1];exact (if_pos (Nat.lt_of_lt_of_le hk HG2.out.size)).trans (hlow k hk)
    have HHI:=Am (show ∀ k,w2.heap.size ≤ k → f1 k = -1 from fun k hk => by rw [hf1];exact if_neg (by omega));clear hf1 f;obtain ⟨f,rfl⟩ : ∃ f : Nat → Int,f = f1:=⟨_,rfl⟩;have HKM:=Am hkm;have HLOW:=Am hlow;have HT0:=Am (tree_of h0);have HE0:=Am h0;clear hkm hlow h0;go_upto_region 2 with (fail)
    have HX1c:=Am (blk_kept HX1b.out (gA w2 (.cells #[.map (some kb)] 105) none) (by simp));have HX7c:=Am (blk_kept HX7b.out (gA w2 (.cells #[.map (some kb)] 105) none) (by simp));have HX2c:=Am (heap_alloc_new w2 (.cells #[.map (some kb)] 105));have HG3:=Am (gT HG2.out (gA w2 (.cells #[.map (some kb)] 105) none));have HKMc:=Am (HKM.out.tn (Tn.gb0 (gA w2 (.cells #[.map (some kb)] 105) none) (fun _ => False)) (fun _ h => h.elim));obtain ⟨g2,hg2⟩ : ∃ g,g = w2.heap.size:=⟨_,rfl⟩;have HG2S:=Am (show w1.heap.size ≤ g2 ∧ w2.heap.size ≤ g2 from ⟨by rw [hg2];exact HG2.out.size,by omega⟩);have HZ3:=Am (gA w2 (.cells #[.map (some kb)] 105) none).size;rw [← hg2] at HX2c ⊢;clear hg2 HX1b HX7b HKM HG2;generalize w2.alloc (.cells #[.map (some kb)] 105) = w3 at HX1c HX2c HX7c HG3 HKMc HZ3 ⊢;have c0:=cell_of (j:=0) HX7c.out rfl;have c1:=cell_of (j:=1) HX7c.out rfl;have c2:=cell_of (j:=2) HX7c.out rfl;have c3:=cell_of (j:=3) HX7c.out rfl;have c4:=cell_of (j:=4) HX7c.out rfl;have c5:=cell_of (j:=5) HX7c.out rfl;have c6:=cell_of (j:=6) HX7c.out rfl;have c7:=cell_of (j:=7) HX7c.out rfl;have HCK:=Am (check_calls w3 a0 a1 a2 a3 a4 a5 a6 a7);rw [← HCV.out] at HCK;go_wp2_with fail
    refine (HCK.out).mono ?_;rintro e w4 ⟨rfl,hg⟩;have HX1d:=Am (blk_kept HX1c.out hg (by simp));have HX2d:=Am (blk_kept HX2c.out hg (by simp));have HX7d:=Am (blk_kept HX7c.out hg (by simp));have HG4:=Am (gT HG3.out hg);have HG2U:=Am (blk_lt' HX2d.out);have HZ4:=Am (show w2.heap.size ≤ w4.heap.size from Nat.le_trans HZ3.out hg.size);have HKMd:=Am (HKMc.out.tn (Tn.gb0 hg (fun _ => False)) (fun _ h => h.elim));clear hg c0 c1 c2 c3 c4 c5 c6 c7 HX1c HX2c HX7c HKMc HCK HG3
    by_cases hC0 : C = 0
    · have b0 : (C != 0) = false:=by simp [hC0]
      have HC0:=Am hC0;clear hC0;have hn0 : 0 < n:=by have:=HT0.out.pos;have:=HN.out;omega
      have hn0i : (0 : Int) < (n : Int):=by omega
      obtain ⟨ad,hA,hcell⟩:=HR.out.2.2 hn0;subst hA;have had : ad.block < w.heap.size:=by
        obtain ⟨x,hx⟩ : ∃ x,ls[0]? = some x:=⟨_,lG (by have:=HN.out;omega)⟩
        have:=World.block_lt_of_cell? w _ (acc_cells HR.out hx).1;rwa [H.add_block] at this
      have HAD:=Am had;have HSM:=Am (sums_calls w4 w1.heap.size f kb m D ls ad n c ((HR.out.gb HG1.out).gb HG4.out) HKMd.out HT0.out HUS.out (by rw [HLOW.out _ (by have:=HG1.out.size;omega)];decide));have k1:=cell_of (j:=0) HX1d.out rfl;have k2:=cell_of (j:=0) HX2d.out rfl;clear hcell had;go_wp2_with fail
      refine (HSM.out).mono ?_;rintro e w5 ⟨sb,rfl,ho,hg⟩;have HX1e:=Am (blk_kept HX1d.out hg (by simp));have HX2e:=Am (blk_kept HX2d.out hg (by simp));have HX7e:=Am (blk_kept HX7d.out hg (by simp));have HKMe:=Am (HKMd.out.tn (Tn.gb0 hg (fun _ => False)) (fun _ h => h.elim));have HSR:=Am ho;have HG5:=Am (gT HG4.out hg);have HS4:=Am (show w4.heap.size ≤ sb from (ho.lt sb rfl).1);clear hg ho k1 k2 HSM HX1d HX2d HX7d HKMd;go_upto_region 5 with (fail)
      have eA:=gA w5 (.cells #[.slice (some ⟨sb,0,none⟩) n n] 42) none;have HX1f:=Am (blk_kept HX1e.out eA (by simp));have HX2f:=Am (blk_kept HX2e.out eA (by simp));have HX7f:=Am (blk_kept HX7e.out eA (by simp));have HX3:=Am (heap_alloc_new w5 (.cells #[.slice (some ⟨sb,0,none⟩) n n] 42));have HKMf:=Am (HKMe.out.tn (Tn.gb0 eA (fun _ => False)) (fun _ h => h.elim));have HSRf:=Am (own_kept HSR.out eA (by simp));have HG6:=Am (gT HG5.out eA);obtain ⟨g3,hg3⟩ : ∃ g,g = w5.heap.size:=⟨_,rfl⟩;have HG3S:=Am (show sb < g3 by rw [hg3];exact (HSR.out.lt sb rfl).2);have HG3T:=Am (show w4.heap.size ≤ g3 by have h1:=HS4.out;have h2:=HG3S.out;omega);rw [← hg3] at HX3 ⊢;clear hg3 eA HX1e HX2e HX7e HKMe HSR HG5;generalize w5.alloc (.cells #[.slice (some ⟨sb,0,none⟩) n n] 42) = w6 at HX1f HX2f HX7f HX3 HKMf HSRf HG6 ⊢;obtain ⟨s0,hs0⟩ : ∃ s0,s0 = rd (sumsV ls) ((0 : Nat) : Int):=⟨_,rfl⟩;have HS0E:=Am hs0;have HSL:=Am (show (sumsV ls).length = n by unfold sumsV;rw [List.length_map,List.length_range];exact HN.out);have HS0:=Am (num_cell HSRf.out hn0 HSL.out);rw [← hs0] at HS0;have HX7e:=Am (show w6.drew.heap[g7]? = _ from HX7f.out);clear hs0;have HFC : Aside0 (∀ W : World,Calls Tryz.prog 72 #[.agg #[.int .i64 a0,.int .i64 a1,.int .i64 a2,.int .i64 a3,.int .i64 a4,.int .i64 a5,.int .i64 a6,.int .i64 a7]] W fun e w' => e = .returned (.int .u64 F) ∧ W.grownBy w' none):=⟨fun W => by rw [HFV.out];exact floor_calls W a0 a1 a2 a3 a4 a5 a6 a7⟩;refine start_ (n:=8) (S:=fun w' => w'.cell? ⟨g3,0,none⟩ = some (.slice (some ⟨sb,0,none⟩) n n) ∧ w'.cell? ⟨sb,0,none⟩ = some (.int .u64 s0) ∧ w'.cell? ⟨g7,0,none⟩ = some (.int .i64 a0) ∧ w'.cell? ⟨g7,1,none⟩ = some (.int .i64 a1) ∧ w'.cell? ⟨g7,2,none⟩ = some (.int .i64 a2) ∧ w'.cell? ⟨g7,3,none⟩ = some (.int .i64 a3) ∧ w'.cell? ⟨g7,4,none⟩ = some (.int .i64 a4) ∧ w'.cell? ⟨g7,5,none⟩ = some (.int .i64 a5) ∧ w'.cell? ⟨g7,6,none⟩ = some (.int .i64 a6) ∧ w'.cell? ⟨g7,7,none⟩ = some (.int .i64 a7)) (ds:=[7]) #[nn,nn,nn,nn,nn,nn,nn,nn] (by kernel_rfl) rfl rfl ⟨cell_of (j:=0) (show w6.drew.heap[g3]? = _ from HX3.out) rfl,HS0.out,cell_of (j:=0) (show w6.drew.heap[g7]? = _ from HX7e.out) rfl,cell_of (j:=1) (show w6.drew.heap[g7]? = _ from HX7e.out) rfl,cell_of (j:=2) (show w6.drew.heap[g7]? = _ from HX7e.out) rfl,cell_of (j:=3) (show w6.drew.heap[g7]? = _ from HX7e.out) rfl,cell_of (j:=4) (show w6.drew.heap[g7]? = _ from HX7e.out) rfl,cell_of (j:=5) (show w6.drew.heap[g7]? = _ from HX7e.out) rfl,cell_of (j:=6) (show w6.drew.heap[g7]? = _ from HX7e.out) rfl,cell_of (j:=7) (show w6.drew.heap[g7]? = _ from HX7e.out) rfl⟩ (fun hHeld => ?_);refine tk_ 0 (some 26) (bm 8 1) (by kernel_rfl) hHeld ?_;refine pu_ 1 (some 27) (bm 8 3) (by kernel_rfl) ?_;refine tk_ 2 (some 28) (bm 8 7) (by kernel_rfl) hHeld ?_;refine tk_ 3 (some 29) (bm 8 15) (by kernel_rfl) hHeld ?_;refine join_ (σ:=Nat) 1 (bm 8 127) (fun s => [(30,.int .u64 F),(8,.pointer (some ⟨s,0,none⟩)),(31,.int .u64 (if s0 < F then F else s0))]) (fun s w' => New1 w6 w' s) ?_ ?_
      rotate_left
      · intro hCont
        refine two_ (i:=4) (j:=6) (Ni:=some 30) (Nj:=some 8) (bm 8 31) (bm 8 79) rfl rfl rfl rfl (by kernel_rfl) (by decide) (by decide) (fun K hK => ?_) (fun K hK => ?_)
        · skip
          refine goes_ Tryz.func72 (by kernel_rfl) rfl #[.agg #[.int .i64 a0,.int .i64 a1,.int .i64 a2,.int .i64 a3,.int .i64 a4,.int .i64 a5,.int .i64 a6,.int .i64 a7]] (by rfl) rfl rfl (by simp only [List.map_toArray,List.map_cons,List.map_nil];try rfl) ?_;with_reducible refine ((HFC.out _)).mono ?_
          rintro e w43 ⟨rfl,hg⟩;refine ⟨_,rfl,?_⟩;have HG43:=Am hg;refine hK.out _ _ ⟨hg.cell hHeld.1 (by simp),hg.cell hHeld.2.1 (by simp),hg.cell hHeld.2.2.1 (by simp),hg.cell hHeld.2.2.2.1 (by simp),hg.cell hHeld.2.2.2.2.1 (by simp),hg.cell hHeld.2.2.2.2.2.1 (by simp),hg.cell hHeld.2.2.2.2.2.2.1 (by simp),hg.cell hHeld.2.2.2.2.2.2.2.1 (by simp),hg.cell hHeld.2.2.2.2.2.2.2.2.1 (by simp),hg.cell hHeld.2.2.2.2.2.2.2.2.2 (by simp)⟩ (fun hHeld => ?_);clear hK K;refine norm_ (a':=?_) ?_ ?_
          rotate_left
          · show Act.put _ (some 30) _ = _
            simp only [NR];rfl
          refine pu_ 5 (some 31) (bm 8 63) (by kernel_rfl) ?_;refine one_ (i:=6) (N:=some 8) (bm 8 127) rfl rfl (by kernel_rfl) (by decide) (fun K hK => ?_);refine value_ (w1:=?_) (v:=?_) (by rfl) rfl ?_ ?_
          rotate_left 2
          · go_simp
            constructor
            · rfl
            · rfl
          refine hK.out _ _ ⟨(gA _ (.cells #[.int .u64 0] 29) none).cell hHeld.1 (by simp),(gA _ (.cells #[.int .u64 0] 29) none).cell hHeld.2.1 (by simp),(gA _ (.cells #[.int .u64 0] 29) none).cell hHeld.2.2.1 (by simp),(gA _ (.cells #[.int .u64 0] 29) none).cell hHeld.2.2.2.1 (by simp),(gA _ (.cells #[.int .u64 0] 29) none).cell hHeld.2.2.2.2.1 (by simp),(gA _ (.cells #[.int .u64 0] 29) none).cell hHeld.2.2.2.2.2.1 (by simp),(gA _ (.cells #[.int .u64 0] 29) none).cell hHeld.2.2.2.2.2.2.1 (by simp),(gA _ (.cells #[.int .u64 0] 29) none).cell hHeld.2.2.2.2.2.2.2.1 (by simp),(gA _ (.cells #[.int .u64 0] 29) none).cell hHeld.2.2.2.2.2.2.2.2.1 (by simp),(gA _ (.cells #[.int .u64 0] 29) none).cell hHeld.2.2.2.2.2.2.2.2.2 (by simp)⟩ (fun hHeld => ?_);clear hK K;refine norm_ (a':=?_) ?_ ?_
          rotate_left
          · show Act.put _ (some 8) _ = _
            simp only [NR];rfl
          exact norm_ (by simp only [putAll,Act.put,List.setIfInBounds_toArray,List.set_cons_zero,List.set_cons_succ]) (hCont w43.heap.size _ (new1_a HG43.out))
        · skip
          refine value_ (w1:=?_) (v:=?_) (by rfl) rfl ?_ ?_
          rotate_left 2
          · go_simp
            constructor
            · rfl
            · rfl
          refine hK.out _ _ ⟨(gA _ (.cells #[.int .u64 0] 29) none).cell hHeld.1 (by simp),(gA _ (.cells #[.int .u64 0] 29) none).cell hHeld.2.1 (by simp),(gA _ (.cells #[.int .u64 0] 29) none).cell hHeld.2.2.1 (by simp),(gA _ (.cells #[.int .u64 0] 29) none).cell hHeld.2.2.2.1 (by simp),(gA _ (.cells #[.int .u64 0] 29) none).cell hHeld.2.2.2.2.1 (by simp),(gA _ (.cells #[.int .u64 0] 29) none).cell hHeld.2.2.2.2.2.1 (by simp),(gA _ (.cells #[.int .u64 0] 29) none).cell hHeld.2.2.2.2.2.2.1 (by simp),(gA _ (.cells #[.int .u64 0] 29) none).cell hHeld.2.2.2.2.2.2.2.1 (by simp),(gA _ (.cells #[.int .u64 0] 29) none).cell hHeld.2.2.2.2.2.2.2.2.1 (by simp),(gA _ (.cells #[.int .u64 0] 29) none).cell hHeld.2.2.2.2.2.2.2.2.2 (by simp)⟩ (fun hHeld => ?_);clear hK K;refine norm_ (a':=?_) ?_ ?_
          rotate_left
          · show Act.put _ (some 8) _ = _
            simp only [NR];rfl
          refine one_ (i:=4) (N:=some 30) (bm 8 95) rfl rfl (by kernel_rfl) (by decide) (fun K hK => ?_);refine goes_ Tryz.func72 (by kernel_rfl) rfl #[.agg #[.int .i64 a0,.int .i64 a1,.int .i64 a2,.int .i64 a3,.int .i64 a4,.int .i64 a5,.int .i64 a6,.int .i64 a7]] (by rfl) rfl rfl (by simp only [List.map_toArray,List.map_cons,List.map_nil];try rfl) ?_;with_reducible refine ((HFC.out _)).mono ?_
          rintro e w43 ⟨rfl,hg⟩;refine ⟨_,rfl,?_⟩;have HG43:=Am hg;refine hK.out _ _ ⟨hg.cell hHeld.1 (by simp),hg.cell hHeld.2.1 (by simp),hg.cell hHeld.2.2.1 (by simp),hg.cell hHeld.2.2.2.1 (by simp),hg.cell hHeld.2.2.2.2.1 (by simp),hg.cell hHeld.2.2.2.2.2.1 (by simp),hg.cell hHeld.2.2.2.2.2.2.1 (by simp),hg.cell hHeld.2.2.2.2.2.2.2.1 (by simp),hg.cell hHeld.2.2.2.2.2.2.2.2.1 (by simp),hg.cell hHeld.2.2.2.2.2.2.2.2.2 (by simp)⟩ (fun hHeld => ?_);clear hK K;refine norm_ (a':=?_) ?_ ?_
          rotate_left
          · show Act.put _ (some 30) _ = _
            simp only [NR];rfl
          refine pu_ 5 (some 31) (bm 8 127) (by kernel_rfl) ?_;exact norm_ (by simp only [putAll,Act.put,List.setIfInBounds_toArray,List.set_cons_zero,List.set_cons_succ]) (hCont w6.heap.size _ (new1_b HG43.out))
      rintro g6 w7 hF;have HF7:=Am hF;have hHeld : w7.cell? ⟨g3,0,none⟩ = some (.slice (some ⟨sb,0,none⟩) n n) ∧ w7.cell? ⟨sb,0,none⟩ = some (.int .u64 s0) ∧ w7.cell? ⟨g7,0,none⟩ = some (.int .i64 a0) ∧ w7.cell? ⟨g7,1,none⟩ = some (.int .i64 a1) ∧ w7.cell? ⟨g7,2,none⟩ = some (.int .i64 a2) ∧ w7.cell? ⟨g7,3,none⟩ = some (.int .i64 a3) ∧ w7.cell? ⟨g7,4,none⟩ = some (.int .i64 a4) ∧ w7.cell? ⟨g7,5,none⟩ = some (.int .i64 a5) ∧ w7.cell? ⟨g7,6,none⟩ = some (.int .i64 a6) ∧ w7.cell? ⟨g7,7,none⟩ = some (.int .i64 a7):=⟨hF.2.2.cell (cell_of (j:=0) HX3.out rfl) (by simp),hF.2.2.cell (HS0.out) (by simp),hF.2.2.cell (cell_of (j:=0) HX7f.out rfl) (by simp),hF.2.2.cell (cell_of (j:=1) HX7f.out rfl) (by simp),hF.2.2.cell (cell_of (j:=2) HX7f.out rfl) (by simp),hF.2.2.cell (cell_of (j:=3) HX7f.out rfl) (by simp),hF.2.2.cell (cell_of (j:=4) HX7f.out rfl) (by simp),hF.2.2.cell (cell_of (j:=5) HX7f.out rfl) (by simp),hF.2.2.cell (cell_of (j:=6) HX7f.out rfl) (by simp),hF.2.2.cell (cell_of (j:=7) HX7f.out rfl) (by simp)⟩;have hc6:=cell_of (j:=0) hF.1 rfl;have hf6:=frozen_of (j:=0) hF.1;clear hF;refine norm_ (a':=?_) ?_ ?_
      rotate_left
      · simp only [putAll,Act.put,List.setIfInBounds_toArray,List.set_cons_zero,List.set_cons_succ]
        rfl
      refine last_ (i:=7) (N:=none) (bm 8 255) rfl rfl (by kernel_rfl) (by decide) (fun K hK => ?_);refine skip_ (w1:=?_) (by rfl) rfl ?_ ?_
      rotate_left
      · go_simp
        rfl
      refine hK.out _ _ ?_;clear hK K;refine done_ (by kernel_rfl) ?_;obtain ⟨Wh,hWh⟩ : ∃ Wh,Wh = (if s0 < F then F else s0):=⟨_,rfl⟩;have HWE:=Am (show Wh = wholeV ls F by rw [hWh,HS0E.out];rfl);rw [← hWh];have hFU : U F:=by
        rw [HFV.out];unfold floorV
        by_cases h : checkV a0 a1 a2 a3 a4 a5 a6 a7 = 0
        · rw [if_pos h];have:=floor_bd h;unfold U;omega
        · rw [if_neg h];exact ⟨by decide,by decide⟩
      have hSU : ∀ i,U (rd (sumsV ls) i):=fun i => by
        unfold rd;rw [List.getD_eq_getElem?_getD]
        cases e : (sumsV ls)[i.toNat]? with
        | none => exact (⟨by decide,by decide⟩ : U 0)
        | some y =>
          have:=List.mem_of_getElem? e;unfold sumsV at this;obtain ⟨k,_,rfl⟩:=List.mem_map.1 this;exact sumF_in HUS.out 5 _
      have HSU:=Am hSU;have HUS0:=Am (show U s0 by rw [HS0E.out];exact hSU _);have HUWh:=Am (show U Wh by rw [hWh];split;exact hFU;exact HUS0.out);clear hWh hFU hSU;obtain ⟨h61,h62,h6g⟩:=HF7.out;have z62:=h62;have T6 : Tn w6 (w7.setCell ⟨g6,0,none⟩ (.int .u64 Wh)) (fun k => k = g6):=(Tn.gb0 h6g _).trans' (Tn.set g6 0 _ rfl);have l1:=blk_lt' HX1f.out;have l2:=blk_lt' HX2f.out;have l3:=blk_lt' HX3.out;have lk:=HKMf.out.own.lt;have HG6S:=Am (show w4.heap.size ≤ g6 ∧ g3 < g6 ∧ g1 < g6 ∧ g2 < g6 ∧ sb < g6 from ⟨by have:=HG3T.out;omega,by omega,by omega,by omega,by have:=HG3S.out;omega⟩);have HX1h:=Am (blk_tn HX1f.out T6 (by show ¬ g1 = g6;omega));have HX2h:=Am (blk_tn HX2f.out T6 (by show ¬ g2 = g6;omega));have HX3h:=Am (blk_tn HX3.out T6 (by show ¬ g3 = g6;omega));have HX6h:=Am (show (w7.setCell ⟨g6,0,none⟩ (.int .u64 Wh)).heap[g6]? = some (.cells #[.int .u64 Wh] 29 (0,0)) from blk_set 0 _ h61);have HSRh:=Am (own_tn HSRf.out T6 (fun k hk e => by cases hk;have h1:=HG6S.out;have h2 : sb = g6:=e;omega));have HKMh:=Am (HKMf.out.lt (f':=f) (T:=fun x => x < 4) ⟨⟨T6.os,T6.tape,T6.output,T6.size,fun k hk hF => T6.block k hk (fun e => by omega)⟩,fun _ _ => rfl⟩ (fun x h h2 => by omega));have HT8:=Am ((Tn.gb0 HG6.out (fun k => k = g6)).trans' T6);clear h61 h62 h6g z62 T6 l1 l2 l3 lk HX1f HX2f HX3 HX7f HX7e HSRf HKMf HS0 HG6 HF7 HFC;generalize w7.setCell ⟨g6,0,none⟩ (.int .u64 Wh) = w8 at HX1h HX2h HX3h HX6h HSRh HKMh HT8 ⊢;have hmk : ∀ W : World,(Instr.makeSlice 42 (.int .i64 (n : Int)) (.int .i64 (n : Int))).run Tryz.prog W = .ok (.slice (some ⟨W.heap.size,0,none⟩) n n) (W.alloc (.cells (madeCells #[.int .u64 0] n) 29)):=fun W => by
        have:=HT0.out.le;have:=HN.out;exact run_make_row' 42 29 (.int .u64 0) 8 Tryz.underlying42 (by kernel_rfl) rfl .i64 .i64 n (by omega) (by omega) W
      have k1:=cell_of (j:=0) HX1h.out rfl;go_upto_region 7 with (fail)
      obtain ⟨ob,hob⟩ : ∃ g,g = w8.heap.size:=⟨_,rfl⟩;obtain ⟨g4,hg4⟩ : ∃ g,g = w8.heap.size + 1:=⟨_,rfl⟩;have e1:=gA w8 (.cells (madeCells #[.int .u64 0] n) 29) none;have e2:=gA (w8.alloc (.cells (madeCells #[.int .u64 0] n) 29)) (.cells #[.slice (some ⟨w8.heap.size,0,none⟩) n n] 42) none;have e12:=gT e1 e2;have HX1i:=Am (blk_kept HX1h.out e12 (by simp));have HX2i:=Am (blk_kept HX2h.out e12 (by simp));have HX3i:=Am (blk_kept HX3h.out e12 (by simp));have HX6i:=Am (blk_kept HX6h.out e12 (by simp));have HSRi:=Am (own_kept HSRh.out e12 (by simp));have HKMi:=Am (HKMh.out.tn (Tn.gb0 e12 (fun _ => False)) (fun _ h => h.elim));have HX4i:=Am (heap_alloc_new (w8.alloc (.cells (madeCells #[.int .u64 0] n) 29)) (.cells #[.slice (some ⟨w8.heap.size,0,none⟩) n n] 42));have HOB:=Am (blk_kept (heap_alloc_new w8 (.cells (madeCells #[.int .u64 0] n) 29)) e2 (by simp));have HT9:=Am (HT8.out.trans' (Tn.gb0 e12 _));have l1:=blk_lt' HX1h.out;have l2:=blk_lt' HX2h.out;have l3:=blk_lt' HX3h.out;have l6:=blk_lt' HX6h.out;have ls8:=(HSRh.out.lt sb rfl).2;have HW9:=Am (show ((w8.alloc (.cells (madeCells #[.int .u64 0] n) 29)).alloc (.cells #[.slice (some ⟨w8.heap.size,0,none⟩) n n] 42)).heap.size = w8.heap.size + 2 by simp only [World.size_alloc]);simp only [World.size_alloc] at HX4i;have HZ9:=Am (show g4 = ob + 1 ∧ g1 < ob ∧ g2 < ob ∧ g3 < ob ∧ g6 < ob ∧ sb < ob ∧ ob = w8.heap.size by omega);rw [← hg4] at HX4i ⊢;rw [← hob] at HX4i HOB HX1i HX2i HX3i HX6i HSRi HKMi HT9 HW9 ⊢;clear e1 e2 e12 hob hg4 l1 l2 l3 l6 ls8 hmk k1 HX1h HX2h HX3h HX6h HSRh HKMh HT8;generalize (w8.alloc (.cells (madeCells #[.int .u64 0] n) 29)).alloc (.cells #[.slice (some ⟨ob,0,none⟩) n n] 42) = w9 at HX1i HX2i HX3i HX4i HX6i HSRi HKMi HT9 HOB HW9 ⊢;have HOi:=Am (made_own (B:=w.heap.size) HOB.out (by have h1:=HG1.out.size;have h2:=HG4.out.size;have h3:=HG6S.out;have h4:=HZ9.out;omega) (by have:=HT0.out.le;have:=HN.out;omega));have HS0i:=Am (num_cell (own_kept HSRi.out (gb_drew w9 none) (by simp)) hn0 HSL.out);rw [← HS0E.out] at HS0i;clear HOB;refine start_ (n:=8) (S:=fun w' => w'.cell? ⟨g4,0,none⟩ = some (.slice (some ⟨ob,0,none⟩) n n) ∧ w'.cell? ⟨g3,0,none⟩ = some (.slice (some ⟨sb,0,none⟩) n n) ∧ w'.cell? ⟨sb,0,none⟩ = some (.int .u64 s0) ∧ w'.cell? ⟨g6,0,none⟩ = some (.int .u64 Wh)) (ds:=[7]) #[nn,nn,nn,nn,nn,nn,nn,nn] (by kernel_rfl) rfl rfl ⟨cell_of (j:=0) (show w9.drew.heap[g4]? = _ from HX4i.out) rfl,cell_of (j:=0) (show w9.drew.heap[g3]? = _ from HX3i.out) rfl,HS0i.out,cell_of (j:=0) (show w9.drew.heap[g6]? = _ from HX6i.out) rfl⟩ (fun hHeld => ?_);refine tk_ 0 (some 35) (bm 8 1) (by kernel_rfl) hHeld ?_;refine tk_ 1 (some 36) (bm 8 3) (by kernel_rfl) hHeld ?_;refine pu_ 2 (some 37) (bm 8 7) (by kernel_rfl) ?_;refine tk_ 3 (some 38) (bm 8 15) (by kernel_rfl) hHeld ?_;refine tk_ 4 (some 39) (bm 8 31) (by kernel_rfl) hHeld ?_;refine one_ (i:=5) (N:=some 40) (bm 8 63) rfl rfl (by kernel_rfl) (by decide) (fun K hK => ?_);refine goes_ Tryz.func73 (by kernel_rfl) rfl #[.int .u64 s0,.int .u64 9223372036854775808,.int .u64 Wh] (by rfl) rfl rfl (by simp only [List.map_toArray,List.map_cons,List.map_nil];try rfl) ?_;with_reducible refine ((part_calls _ _ _ _ HUS0.out UONE HUWh.out)).mono ?_
      rintro e w10 ⟨rfl,hg⟩;refine ⟨_,rfl,?_⟩;have HG10:=Am hg;have HO10:=Am (own_kept (own_kept HOi.out (gb_drew w9 none) (by simp)) hg (by simp));have hcq:=num_cell HO10.out hn0 (by simp);have hfq:=own_frozen HO10.out 0;refine hK.out _ _ ⟨hg.cell hHeld.1 (by simp),hg.cell hHeld.2.1 (by simp),hg.cell hHeld.2.2.1 (by simp),hg.cell hHeld.2.2.2 (by simp)⟩ (fun hHeld => ?_);clear hK K;refine norm_ (a':=?_) ?_ ?_
      rotate_left
      · show Act.put _ (some 40) _ = _
        simp only [NR];rfl
      refine pu_ 6 (some 41) (bm 8 127) (by kernel_rfl) ?_;refine last_ (i:=7) (N:=none) (bm 8 255) rfl rfl (by kernel_rfl) (by decide) (fun K hK => ?_);refine skip_ (w1:=?_) (by rfl) rfl ?_ ?_
      rotate_left
      · go_simp
        rfl
      refine hK.out _ _ ?_;clear hK K;refine done_ (by kernel_rfl) ?_;obtain ⟨X,hX⟩ : ∃ X,X = partQ s0 9223372036854775808 Wh:=⟨_,rfl⟩;have HXE:=Am hX;rw [← hX];have TS : Tn w9 (w10.setCell ⟨ob,0,none⟩ (.int .u64 X)) (fun k => k = ob):=((Tn.drew w9 _).trans' (Tn.gb0 HG10.out _)).trans' (Tn.set ob 0 _ rfl);obtain ⟨z94,z91,z92,z93,z96,z9s,z98⟩:=HZ9.out;have HX1j:=Am (blk_tn HX1i.out TS (by show ¬ g1 = ob;omega));have HX2j:=Am (blk_tn HX2i.out TS (by show ¬ g2 = ob;omega));have HX3j:=Am (blk_tn HX3i.out TS (by show ¬ g3 = ob;omega));have HX4j:=Am (blk_tn HX4i.out TS (by show ¬ g4 = ob;omega));have HX6j:=Am (blk_tn HX6i.out TS (by show ¬ g6 = ob;omega));have HSRj:=Am (own_tn HSRi.out TS (fun k hk e => by cases hk;have h2 : sb = ob:=e;omega));have HOj:=Am (num_put HO10.out hn0 (by simp) X);have HWJ:=Am (show w9.heap.size ≤ (w10.setCell ⟨ob,0,none⟩ (.int .u64 X)).heap.size from TS.size);have HTj:=Am ((HT9.out.mono (G:=fun k => k = g6 ∨ k = ob) (fun _ _ h => .inl h)).trans' (TS.mono (fun _ _ h => .inr h)));have HTJ2:=Am TS;clear hX TS z94 z91 z92 z93 z96 z9s z98 hcq hfq HX1i HX2i HX3i HX4i HX6i HSRi HOi HS0i HO10 HG10 HT9;generalize w10.setCell ⟨ob,0,none⟩ (.int .u64 X) = w11 at HX1j HX2j HX3j HX4j HX6j HSRj HOj HTj HWJ HTJ2 ⊢;go_upto_region 9 with (fail)
      have e3:=gA w11 (.cells #[.nilFunc] 109) none;have HX1k:=Am (blk_kept HX1j.out e3 (by simp));have HX2k:=Am (blk_kept HX2j.out e3 (by simp));have HX3k:=Am (blk_kept HX3j.out e3 (by simp));have HX4k:=Am (blk_kept HX4j.out e3 (by simp));have HX6k:=Am (blk_kept HX6j.out e3 (by simp));have HX5k:=Am (heap_alloc_new w11 (.cells #[.nilFunc] 109));have HSRk:=Am (own_kept HSRj.out e3 (by simp));have HOk:=Am (own_kept HOj.out e3 (by simp));have HTk:=Am (HTj.out.trans' (Tn.gb0 e3 _));have HTn:=Am (HTJ2.out.trans' (Tn.gb0 e3 _));have l4:=blk_lt' HX4j.out;obtain ⟨g5,hg5⟩ : ∃ g,g = w11.heap.size:=⟨_,rfl⟩;have HZ5:=Am (show g4 < g5 by omega);rw [← hg5] at HX5k ⊢;clear hg5 e3 l4 HX1j HX2j HX3j HX4j HX6j HSRj HOj HTj HWJ HTJ2;generalize w11.alloc (.cells #[.nilFunc] 109) = w12 at HX1k HX2k HX3k HX4k HX5k HX6k HSRk HOk HTk HTn ⊢;have hc5:=cell_of (j:=0) HX5k.out rfl;have hf5:=frozen_of (j:=0) HX5k.out;have hst : (store ⟨g5,0,none⟩ (.func (.func 74) #[] #[.pointer (some ⟨g1,0,none⟩),.pointer (some ⟨g2,0,none⟩),.pointer (some ⟨g3,0,none⟩),.pointer (some ⟨g6,0,none⟩),.pointer (some ⟨g4,0,none⟩),.pointer (some ⟨g5,0,none⟩)])).run Tryz.prog w12 = .ok () (w12.setCell ⟨g5,0,none⟩ (.func (.func 74) #[] #[.pointer (some ⟨g1,0,none⟩),.pointer (some ⟨g2,0,none⟩),.pointer (some ⟨g3,0,none⟩),.pointer (some ⟨g6,0,none⟩),.pointer (some ⟨g4,0,none⟩),.pointer (some ⟨g5,0,none⟩)])):=by
        rw [run_store _ _ _ _ _ rfl,hc5];simp [hf5]
      go_upto_region 10 with (fail)
      have T5 : Tn w12 (w12.setCell ⟨g5,0,none⟩ (.func (.func 74) #[] #[.pointer (some ⟨g1,0,none⟩),.pointer (some ⟨g2,0,none⟩),.pointer (some ⟨g3,0,none⟩),.pointer (some ⟨g6,0,none⟩),.pointer (some ⟨g4,0,none⟩),.pointer (some ⟨g5,0,none⟩)])) (fun k => k = g5):=Tn.set g5 0 _ rfl;have q9:=HZ9.out;have q6:=HG6S.out;have q5:=HZ5.out;have HX1l:=Am (blk_tn HX1k.out T5 (by show ¬ g1 = g5;omega));have HX2l:=Am (blk_tn HX2k.out T5 (by show ¬ g2 = g5;omega));have HX3l:=Am (blk_tn HX3k.out T5 (by show ¬ g3 = g5;omega));have HX4l:=Am (blk_tn HX4k.out T5 (by show ¬ g4 = g5;omega));have HX6l:=Am (blk_tn HX6k.out T5 (by show ¬ g6 = g5;omega));have HX5l:=Am (show (w12.setCell ⟨g5,0,none⟩ (.func (.func 74) #[] #[.pointer (some ⟨g1,0,none⟩),.pointer (some ⟨g2,0,none⟩),.pointer (some ⟨g3,0,none⟩),.pointer (some ⟨g6,0,none⟩),.pointer (some ⟨g4,0,none⟩),.pointer (some ⟨g5,0,none⟩)])).heap[g5]? = some (.cells #[(.func (.func 74) #[] #[.pointer (some ⟨g1,0,none⟩),.pointer (some ⟨g2,0,none⟩),.pointer (some ⟨g3,0,none⟩),.pointer (some ⟨g6,0,none⟩),.pointer (some ⟨g4,0,none⟩),.pointer (some ⟨g5,0,none⟩)])] 109 (0,0)) from blk_set 0 _ HX5k.out);have HSRl:=Am (own_tn HSRk.out T5 (fun k hk e => by cases hk;have h2 : sb = g5:=e;omega));have HOl:=Am (own_tn HOk.out T5 (fun k hk e => by cases hk;have h2 : ob = g5:=e;omega));have HTl:=Am ((HTk.out.mono (G:=fun k => k = g6 ∨ k = ob ∨ k = g5) (fun _ _ h => by rcases h with h | h <;> simp [h])).trans' (T5.mono (fun _ _ h => by simp [h])));have HTm:=Am ((HTn.out.mono (G:=fun k => k = ob ∨ k = g5) (fun _ _ h => .inl h)).trans' (T5.mono (F:=fun k => k = g5) (G:=fun k => k = ob ∨ k = g5) (fun _ _ h => .inr h)));clear T5 hst hc5 hf5 HX1k HX2k HX3k HX4k HX5k HX6k HSRk HOk HTk HTn;generalize w12.setCell ⟨g5,0,none⟩ (.func (.func 74) #[] #[.pointer (some ⟨g1,0,none⟩),.pointer (some ⟨g2,0,none⟩),.pointer (some ⟨g3,0,none⟩),.pointer (some ⟨g6,0,none⟩),.pointer (some ⟨g4,0,none⟩),.pointer (some ⟨g5,0,none⟩)]) = w13 at HX1l HX2l HX3l HX4l HX5l HX6l HSRl HOl HTl HTm ⊢;obtain ⟨fL,hfL⟩ : ∃ fL : Nat → Int,fL = fun k => if k = ob then 0 else if k = sb then 3 else if k = g1 ∨ k = g2 ∨ k = g3 ∨ k = g4 ∨ k = g5 ∨ k = g6 then 2 else if 4 ≤ f k then f k else -1:=⟨_,rfl⟩
      have z1:=HZ1.out;have zw:=HZW.out;have zg1:=HG1.out.size;have zg2:=HG2S.out;have z4:=HZ4.out;have zg4:=HG4.out.size;have z3t:=HG3T.out;have zs4:=HS4.out;have zad:=HAD.out;have q3:=HG3S.out;have q2:=HG2U.out;have hHI:=HHI.out;have hf : ∀ k,4 ≤ f k → k ≠ ob ∧ k ≠ sb ∧ ¬ (k = g1 ∨ k = g2 ∨ k = g3 ∨ k = g4 ∨ k = g5 ∨ k = g6):=fun k hk => by
        have h1 : ¬ w2.heap.size ≤ k:=fun h => by have:=hHI k h;omega
        have h2 : ¬ k < w1.heap.size:=fun h => by have:=HLOW.out k h;omega
        omega
      have hTA : Tn w w13 (fun k => w.heap.size ≤ k):=(Tn.gb0 HG1.out _).trans' (HTl.out.mono (fun i _ h => by show w.heap.size ≤ i;omega));have HTA:=Am hTA;have HSE:=Am (show She w13 w1.heap.size fL kb m D ls ad n c g1 g2 g4 g5 ob (.func (.func 74) #[] #[.pointer (some ⟨g1,0,none⟩),.pointer (some ⟨g2,0,none⟩),.pointer (some ⟨g3,0,none⟩),.pointer (some ⟨g6,0,none⟩),.pointer (some ⟨g4,0,none⟩),.pointer (some ⟨g5,0,none⟩)]) 109 g3 g6 sb w4.heap.size (sumsV ls) Wh from
        ⟨⟨HR.out.tn hTA (fun a ha _ hF => by cases ha;have h2 : w.heap.size ≤ ad.block:=hF;omega),(HKMi.out.relab2 (g:=fL) (fun k _ h2 => by
            obtain ⟨a,b,d⟩:=hf k h2;rw [hfL];show (if _ then _ else _) = _;rw [if_neg a,if_neg b,if_neg d,if_pos h2])).tn HTm.out (fun k hF => by
            rw [hfL];show (if _ then _ else _) < (4 : Int);rcases hF with h | h
            · rw [if_pos h];decide
            · rw [if_neg (by omega),if_neg (by omega),if_pos (by omega)];decide),HX1l.out,HX2l.out,HX4l.out,HX5l.out,
          by rw [hfL];show (if _ then _ else _) < (0 : Int);rw [if_neg (by omega),if_neg (by omega),if_neg (by omega),HLOW.out _ (by omega)];decide,
          by rw [hfL];show (if _ then _ else _) = (2 : Int);rw [if_neg (by omega),if_neg (by omega),if_pos (by omega)],
          by rw [hfL];show (if _ then _ else _) = (2 : Int);rw [if_neg (by omega),if_neg (by omega),if_pos (by omega)],
          by rw [hfL];show (if _ then _ else _) = (2 : Int);rw [if_neg (by omega),if_neg (by omega),if_pos (by omega)],
          by rw [hfL];show (if _ then _ else _) = (2 : Int);rw [if_neg (by omega),if_neg (by omega),if_pos (by omega)],
          by rw [hfL];show (if _ then _ else _) = (0 : Int);rw [if_pos rfl]⟩,HX3l.out,HX6l.out,HSRl.out,
          by rw [hfL];show (if _ then _ else _) = (2 : Int);rw [if_neg (by omega),if_neg (by omega),if_pos (by omega)],
          by rw [hfL];show (if _ then _ else _) = (2 : Int);rw [if_neg (by omega),if_neg (by omega),if_pos (by omega)],
          by rw [hfL];show (if _ then _ else _) = (3 : Int);rw [if_neg (by omega),if_pos rfl]⟩)
      have HFB:=Am (show ∀ k,F0 fL k → w.heap.size ≤ k from fun k hF => by
        unfold F0 at hF;rw [hfL] at hF
        by_cases e : k = ob
        · omega
        · simp only [e,if_false] at hF
          split at hF
          · omega
          · split at hF
            · omega
            · split at hF <;> omega)
      have HNO4:=Am (show ¬ F0 fL g4 from fun h => by unfold F0 at h;have:=HSE.out.s.f4;omega);have HEC:=Am (eff_calls w1.heap.size w.heap.size w4.heap.size fL kb m D ls ad n c g1 g2 g3 g6 g4 g5 ob sb (sumsV ls) Wh HSL.out HSU.out HUWh.out HT0.out HN.out 5 0 (by omega) (by omega) (by rw [dep_root];decide) w13 _ HSE.out (by simp) HOl.out);have hX0 : X = partQ (rd (sumsV ls) 0) 9223372036854775808 Wh:=by rw [HXE.out,HS0E.out];rfl
      rw [hX0,show List.replicate n (0 : Int) = List.replicate ls.length 0 by rw [HN.out],eff_gives HT0.out Wh] at HEC;have k5:=cell_of (j:=0) HX5l.out rfl;clear hfL z1 zw zg1 zg2 z4 zg4 z3t zs4 zad hHI hf hTA HSE q9 q6 q5 hX0;go_wp2_with fail
      refine (HEC.out).mono ?_;rintro e w14 ⟨rfl,-,ho,ht⟩;have HO5:=Am ho;have HT5:=Am ht;have k4:=cell_of (j:=0) (blk_tn HX4l.out ht HNO4.out) rfl;clear ho ht k5 HEC;go_wp2;go_ret;refine ⟨gb_of_tn (HTA.out.trans' (HT5.out.mono (fun i _ h => HFB.out i h))) (fun k h => h),.inr ⟨HE0.out,HC0.out,ob,by rw [HN.out];rfl,?_⟩⟩;rw [HN.out,← HWE.out];exact HO5.out
    · have b0 : (C != 0) = true:=by simp [hC0]
      have HC0:=Am hC0;clear hC0;go_wp2;go_ret;exact ⟨gT HG1.out HG4.out,.inl ⟨.inr HC0.out,rfl⟩⟩
end Go.Proofs.YtodibpddlibneaaGreatDoor.T
namespace Go.Proofs.YtodibpddlibneaaGreatDoor.T
open Go.RowKit YtodibpddlibneaaGreatDoorW.PrintWords YtodibpddlibneaaGreatDoorW.PrintLast H Go.Maps Q GSH
set_option linter.unusedVariables false
set_option linter.unusedSimpArgs false
theorem own_at {w : World} {B n : Nat} {e : TypeId} {v : Value} {xs : List Int} (hl : xs.length = n) (hn : 0 < n) (h : w.ownsRow B e (Ei .u64).sz v n (flat (Ei .u64) xs)) : ∃ b c,v = .slice (some ⟨b,0,none⟩) n c ∧ n ≤ c:=by
  obtain ⟨A,c,rfl,hr,hc,-⟩:=own_open hl h;obtain ⟨ad,rfl,_⟩:=hr.2.2 hn;exact ⟨ad.block,c,by rw [← (own_form h).2 ad rfl],hc⟩
theorem laid_tn {w w' : World} {F : Nat → Prop} (h : LaidW w) (hg : Tn w w' F) (h0 : ¬ F 0) : LaidW w':=fun j hj => cell_tn (h j hj) hg h0
theorem laid_gb {w w' : World} (h : LaidW w) (hg : w.grownBy w' none) : LaidW w':=laid_tn h (Tn.gb0 hg (fun _ => False)) (fun h => h)
theorem laid_pos {w : World} (h : LaidW w) : 0 < w.heap.size:=World.block_lt_of_cell? w _ (h 0 (by omega))
theorem Tree.kidw {ls : List Acc} (t : Tree ls) (i : Nat) (h : i < ls.length) : IntKind.u64.wrap (shV ls (i : Int)) = shV ls (i : Int):=by
  have:=t.sh i h;exact w64_in (by omega) (by omega)
/-- Numerators: at least 1,and no word overflows. -/
theorem num_in {ls : List Acc} (t : Tree ls) : ∀ (k : Nat) (i : Int),0 ≤ i → i < ls.length → k ≤ 4 → 1 ≤ (clm (1,1) (shG ls) ls k i).1 ∧ (clm (1,1) (shG ls) ls k i).1 ≤ 4096 ^ k
  | 0,i,_,_,_ => ⟨Int.le_refl _,Int.le_refl _⟩
  | k + 1,i,h0,h1,hk => by
    rw [clm]
    by_cases e : i = 0
    · rw [if_pos e]
      exact ⟨Int.le_refl _,by have : (0 : Int) < 4096 ^ (k + 1):=Int.pow_pos (by decide);show (1 : Int) ≤ _;omega⟩
    · rw [if_neg e]
      obtain ⟨a,b,_⟩:=t.par (by omega) h1;obtain ⟨l,u⟩:=num_in t k _ a b (by omega);have hs:=t.sh i.toNat (by omega);have hw:=t.kidw i.toNat (by omega);rw [Int.toNat_of_nonneg h0] at hs hw;generalize clm (1,1) (shG ls) ls k (parV ls i) = y at *;show 1 ≤ IntKind.u64.wrap (y.1 * IntKind.u64.wrap (shV ls i)) ∧ IntKind.u64.wrap (y.1 * IntKind.u64.wrap (shV ls i)) ≤ 4096 ^ (k + 1);rw [hw];generalize y.1 = x at *;have hp : (4096 : Int) ^ k ≤ 4096 ^ 3:=by
        have : k = 0 ∨ k = 1 ∨ k = 2 ∨ k = 3:=by omega
        rcases this with rfl | rfl | rfl | rfl <;> decide
      have h2 : x * shV ls i ≤ 4096 ^ k * 4096:=Int.mul_le_mul u hs.2 (by omega) (by have : (0 : Int) < 4096 ^ k:=Int.pow_pos (by decide);omega);have h3 : 1 ≤ x * shV ls i:=by
        have:=Int.mul_le_mul l hs.1 (by decide) (by omega);omega
      have h4 : (4096 : Int) ^ k * 4096 ≤ 4096 ^ 3 * 4096:=Int.mul_le_mul_of_nonneg_right hp (by decide);have h5 : (4096 : Int) ^ 3 * 4096 = 281474976710656:=by decide
      rw [w64_in (by omega) (by omega)];exact ⟨h3,by rw [Int.pow_succ];exact h2⟩
theorem num_pos {ls : List Acc} (t : Tree ls) (i : Nat) (h : i < ls.length) : 1 ≤ (partV ls (i : Int)).1 ∧ (partV ls (i : Int)).1 ≤ 281474976710656:=by
  have:=num_in t 4 (i : Int) (by omega) (by omega) (by omega);exact ⟨this.1,by have h2:=this.2;rw [show (4096 : Int) ^ 4 = 281474976710656 by decide] at h2;exact h2⟩
theorem den_U {ls : List Acc} : ∀ (k : Nat) (i : Int),U (clm (1,1) (shG ls) ls k i).2
  | 0,i => (⟨by decide,by decide⟩ : U 1)
  | k + 1,i => by
    rw [clm];split
    · exact (⟨by decide,by decide⟩ : U 1)
    · exact wrapU _
theorem eff_U {ls : List Acc} {W : Int} (i : Int) : U (effV ls W i):=by
  have key : ∀ (k : Nat) (i : Int),U (clm (partQ (rd (sumsV ls) 0) 9223372036854775808 W) (efG ls (sumsV ls) W) ls k i):=by
    intro k
    induction k with
    | zero => exact fun i => partQ_in
    | succ k ih =>
      intro i;rw [clm];split
      · exact partQ_in
      · exact wrapU _
  exact key 4 i
theorem rd_range {n : Nat} {F : Nat → Int} {j : Nat} (h : j < n) : rd ((List.range n).map F) (j : Int) = F j:=by
  simp [rd,List.getD_eq_getElem?_getD,h]
/-- An account's factor. -/
def factV (ls : List Acc) (W : Int) (i : Int) : Int:=halfV (expV (effV ls W i) (partV ls i).1 (partV ls i).2)
def factsV (ls : List Acc) (W : Int) : List Int:=(List.range ls.length).map (fun i : Nat => factV ls W (i : Int))
/-- What Factors answers: nothing,or the factors in a list of one's own. -/
def FactI (w : World) (C F : Int) (ls : List Acc) (e : Ending) (w' : World) : Prop:=
  w.grownBy w' none ∧ (((loadE ls ≠ 0 ∨ C ≠ 0) ∧ e = .returned (.slice none 0 0)) ∨
    (loadE ls = 0 ∧ C = 0 ∧ ∃ v,e = .returned v ∧
      w'.ownsRow w.heap.size 29 (Ei .u64).sz v ls.length (flat (Ei .u64) (factsV ls (wholeV ls F)))))
theorem Factors_calls (w : World) (hL : LaidW w) (a0 a1 a2 a3 a4 a5 a6 a7 : Int) (A : Option Addr) (n c : Nat) (ls : List Acc) (hr : Rd Ec w A n ls) (hc : n ≤ c) (hok : AccOk ls) (hus : AccU ls) :
    Calls Tryz.prog 17 #[.agg #[.int .i64 a0,.int .i64 a1,.int .i64 a2,.int .i64 a3,.int .i64 a4,.int .i64 a5,.int .i64 a6,.int .i64 a7],.slice A n c] w (FactI w (checkV a0 a1 a2 a3 a4 a5 a6 a7) (floorV a0 a1 a2 a3 a4 a5 a6 a7) ls):=by
  have hlen:=hr.2.1;have HN:=Am hr.1;have HLW:=Am hL;have HEF:=Am (fun (W : World) (hW : Rd Ec W A n ls) => Effective_calls W a0 a1 a2 a3 a4 a5 a6 a7 A n c ls hW hc hok hus);have HSH:=Am (fun (W : World) (hW : Rd Ec W A n ls) => Shares_calls W A n c ls hW hc hok);have HR:=Am hr;obtain ⟨CC,hC⟩ : ∃ C,C = checkV a0 a1 a2 a3 a4 a5 a6 a7:=⟨_,rfl⟩;obtain ⟨F,hF⟩ : ∃ F,F = floorV a0 a1 a2 a3 a4 a5 a6 a7:=⟨_,rfl⟩;rw [← hC,← hF] at HEF ⊢;clear hr hc hok hus hC hF hL;go_enter Tryz.func17,Tryz.ntmps17;go_upto_region 1 with (fail)
  have e1:=gA w (.cells #[.int .i64 a0,.int .i64 a1,.int .i64 a2,.int .i64 a3,.int .i64 a4,.int .i64 a5,.int .i64 a6,.int .i64 a7] 23) none;have HX7:=Am (heap_alloc_new w (.cells #[.int .i64 a0,.int .i64 a1,.int .i64 a2,.int .i64 a3,.int .i64 a4,.int .i64 a5,.int .i64 a6,.int .i64 a7] 23));have HG0:=Am e1;obtain ⟨g7,hg7⟩ : ∃ g,g = w.heap.size:=⟨_,rfl⟩;rw [← hg7] at HX7 ⊢;clear e1 hg7;generalize w.alloc (.cells #[.int .i64 a0,.int .i64 a1,.int .i64 a2,.int .i64 a3,.int .i64 a4,.int .i64 a5,.int .i64 a6,.int .i64 a7] 23) = w0 at HX7 HG0 ⊢;have c0:=cell_of (j:=0) HX7.out rfl;have c1:=cell_of (j:=1) HX7.out rfl;have c2:=cell_of (j:=2) HX7.out rfl;have c3:=cell_of (j:=3) HX7.out rfl;have c4:=cell_of (j:=4) HX7.out rfl;have c5:=cell_of (j:=5) HX7.out rfl;have c6:=cell_of (j:=6) HX7.out rfl;have c7:=cell_of (j:=7) HX7.out rfl;go_wp2_with fail
  refine (HEF.out w0 (HR.out.gb HG0.out)).mono ?_;rintro e w1 ⟨hg,h⟩;have HG1:=Am (gT HG0.out hg);have HG01:=Am hg;clear hg c0 c1 c2 c3 c4 c5 c6 c7 HX7 HEF;rcases h with ⟨hne,rfl⟩ | ⟨h0,hc0,ub,rfl,huo⟩
  · have HNE:=Am hne
    clear hne;go_wp2_with fail
    refine (HSH.out w1 (HR.out.gb HG1.out)).mono ?_;rintro e w2 ⟨hg,h⟩;have HG2:=Am (gT HG1.out hg);clear hg HSH;rcases h with ⟨_,rfl⟩ | ⟨_,nb,db,_,rfl,_,_⟩
    all_goals
      go_wp2_with fail
      go_loopg [8,21] 0 (fun k v8 v21 wr => v8 = .slice none 0 0 ∧ v21 = .int .i64 0 ∧ k = 0 ∧ wr = w2)
      case atStart => exact ⟨rfl,rfl,rfl,rfl⟩
      case round =>
        obtain ⟨rfl,rfl,rfl,rfl⟩:=hrel;go_wp2;go_ret;exact ⟨HG2.out,.inl ⟨HNE.out,rfl⟩⟩
  · have HE0:=Am h0
    have HT0:=Am (tree_of h0);have HC0:=Am hc0;have HUO:=Am huo;clear h0 hc0 huo;rw [HN.out] at HUO ⊢;go_wp2_with fail
    refine (HSH.out w1 (HR.out.gb HG1.out)).mono ?_;rintro e w2 ⟨hg,h⟩;have HG2:=Am (gT HG1.out hg);have HUO2:=Am (own_kept HUO.out hg (by simp));clear HSH HUO;rcases h with ⟨h1,rfl⟩ | ⟨_,nb,db,hnd,rfl,hno,hdo⟩
    · exact absurd HE0.out h1
    · rw [HN.out] at hno hdo
      rw [HN.out];have HNO:=Am hno;have HDO:=Am hdo;have HBL:=Am (show nb < w2.heap.size ∧ db < w2.heap.size from ⟨(hno.lt nb rfl).2,(hdo.lt db rfl).2⟩);have HUBL:=Am (HUO2.out.lt ub rfl).2;clear hg hno hdo hnd;obtain ⟨Wh,hWh⟩ : ∃ Wh,Wh = wholeV ls F:=⟨_,rfl⟩;have HWE:=Am hWh;rw [← hWh] at HUO2;clear hWh;go_wp2_with fail
      go_loopg [8,21] n (fun k v8 v21 wr => ∃ (j : Nat) (fs : List Int) (ov : Value),ov = v8 ∧ v21 = .int .i64 j ∧ Aside0 (j + k = n) ∧ j ≤ n ∧ Aside0 (fs = (List.range j).map (fun i : Nat => factV ls Wh (i : Int))) ∧ Aside0 (wr.ownsRow w2.heap.size 29 (Ei .u64).sz ov j (flat (Ei .u64) fs)) ∧ Aside0 (Tn w2 wr (fun k => w2.heap.size ≤ k)))
      case atStart => exact ⟨0,[],_,rfl,rfl,⟨by omega⟩,by omega,⟨rfl⟩,⟨own_nil _ _ _ _⟩,⟨Tn.refl _ _⟩⟩
      case round =>
        obtain ⟨j,fs,ov,rfl,rfl,HD,hj,HF,HO,HT⟩:=hrel
        cases gk with
        | zero =>
          obtain rfl : j = n:=by have:=HD.out;omega
          go_wp2;go_ret;refine ⟨gb_of_tn ((Tn.gb0 HG2.out (fun k => w.heap.size ≤ k)).trans' (HT.out.mono (fun i _ h => by have h2:=HG2.out.size;have h3 : w2.heap.size ≤ i:=h;show w.heap.size ≤ i;omega))) (fun k h => h),.inr ⟨HE0.out,HC0.out,_,rfl,?_⟩⟩;have h1:=HO.out;rw [HF.out] at h1;rw [← HWE.out];unfold factsV;rw [HN.out];exact own_mono h1 HG2.out.size
        | succ d =>
          have hlt : j < n:=by have:=HD.out;omega
          have hlt1 : decide ((j : Int) < (n : Int)) = true:=dT (by omega);have hji : (j : Int) < (n : Int):=by omega
          have h64 : n ≤ 64:=by have h1:=HT0.out.le;have h2:=HN.out;omega
          have hjl : j < ls.length:=by rw [HN.out];exact hlt
          obtain ⟨u,hu⟩ : ∃ u,u = effV ls Wh (j : Int):=⟨_,rfl⟩;obtain ⟨x,hx⟩ : ∃ x,x = (partV ls (j : Int)).1:=⟨_,rfl⟩;obtain ⟨y,hy⟩ : ∃ y,y = (partV ls (j : Int)).2:=⟨_,rfl⟩;obtain ⟨hv,hhv⟩ : ∃ hv,hv = halfV (expV u x y):=⟨_,rfl⟩;have HHV:=Am hhv;have HNEW:=Am (show (List.range (j + 1)).map (fun i : Nat => factV ls Wh (i : Int)) = fs ++ [hv] by rw [List.range_succ,List.map_append,← HF.out,hhv,hu,hx,hy];rfl);have hnp:=num_pos HT0.out j hjl;have HUU:=Am (show U u by rw [hu];exact eff_U _);have HUX:=Am (show U x by rw [hx];unfold U;omega);have HUY:=Am (show U y by rw [hy];exact den_U 4 _);have HXP:=Am (show 0 < x by rw [hx];omega);have HUE:=Am (expV_in HUU.out HUX.out HUY.out HXP.out);have HTo : ∀ b,b < w2.heap.size → ¬ (w2.heap.size ≤ b):=fun b h h2 => by omega
          have hcu:=num_cell (own_tn HUO2.out HT.out (fun k hk => by cases hk;exact HTo _ HUBL.out)) hlt (show (effsV ls Wh).length = n by unfold effsV;rw [List.length_map,List.length_range];exact HN.out);rw [show rd (effsV ls Wh) (j : Int) = u by rw [hu];exact rd_range hjl] at hcu;have HNd:=Am (own_kept (own_tn HNO.out HT.out (fun k hk => by cases hk;exact HTo _ HBL.out.1)) (gb_drew wr none) (by simp));have HDd:=Am (own_kept (own_tn HDO.out HT.out (fun k hk => by cases hk;exact HTo _ HBL.out.2)) (gb_drew wr none) (by simp));have HNL:=Am (show (numsV ls).length = n by unfold numsV;rw [List.length_map,List.length_range];exact HN.out);have HDL:=Am (show (densV ls).length = n by unfold densV;rw [List.length_map,List.length_range];exact HN.out);have hxn:=num_cell HNd.out hlt HNL.out;have hyn:=num_cell HDd.out hlt HDL.out;rw [show rd (numsV ls) (j : Int) = x by rw [hx];exact rd_range hjl] at hxn;rw [show rd (densV ls) (j : Int) = y by rw [hy];exact rd_range hjl] at hyn;have HCX:=Am hxn;have HCY:=Am hyn;have HOd:=Am (own_kept HO.out (gb_drew wr none) (by simp));have HTd:=Am (HT.out.trans' (Tn.drew wr _));have HLd:=Am (laid_tn (laid_gb HLW.out HG2.out) HTd.out (fun h => by have h1:=laid_pos HLW.out;have h2:=HG2.out.size;omega));clear hu hx hy hhv hnp HTo hxn hyn;go_upto_region 7 with (fail)
          refine start_ (n:=15) (S:=fun w' => w'.cell? ⟨nb,j,none⟩ = some (.int .u64 x) ∧ w'.cell? ⟨db,j,none⟩ = some (.int .u64 y)) (ds:=[]) #[nn,nn,nn,nn,nn,nn,nn,nn,nn,nn,nn,nn,nn,nn,nn] (by kernel_rfl) rfl rfl ⟨HCX.out,HCY.out⟩ (fun hHeld => ?_);refine pu_ 0 (some 26) (bm 15 1) (by kernel_rfl) ?_;refine pu_ 1 (some 27) (bm 15 3) (by kernel_rfl) ?_;refine pu_ 2 (some 28) (bm 15 7) (by kernel_rfl) ?_;refine pu_ 3 (some 29) (bm 15 15) (by kernel_rfl) ?_;refine pu_ 4 (some 30) (bm 15 31) (by kernel_rfl) ?_;refine pu_ 6 (some 32) (bm 15 95) (by kernel_rfl) ?_;refine pu_ 7 (some 33) (bm 15 223) (by kernel_rfl) ?_;refine pu_ 8 (some 34) (bm 15 479) (by kernel_rfl) ?_;refine tk_ 5 (some 31) (bm 15 511) (by kernel_rfl) hHeld ?_;refine tk_ 9 (some 35) (bm 15 1023) (by kernel_rfl) hHeld ?_;refine one_ (i:=10) (N:=some 36) (bm 15 2047) rfl rfl (by kernel_rfl) (by decide) (fun K hK => ?_);refine goes_ Tryz.func41 (by kernel_rfl) rfl #[.int .u64 u,.int .u64 x,.int .u64 y] (by rfl) rfl rfl (by simp only [List.map_toArray,List.map_cons,List.map_nil];try rfl) ?_;with_reducible refine ((exponent_calls _ u x y HUU.out HUX.out HUY.out HXP.out)).mono ?_
          rintro e w10 ⟨rfl,hg⟩;refine ⟨_,rfl,?_⟩;have HO10:=Am (own_kept HOd.out hg (by simp));have HL10:=Am (laid_gb HLd.out hg);have HT10:=Am (HTd.out.trans' (Tn.gb0 hg _));refine hK.out _ _ ⟨hg.cell hHeld.1 (by simp),hg.cell hHeld.2 (by simp)⟩ (fun hHeld => ?_);clear hK K;refine norm_ (a':=?_) ?_ ?_
          rotate_left
          · show Act.put _ (some 36) _ = _
            simp only [NR];rfl
          refine one_ (i:=11) (N:=some 37) (bm 15 4095) rfl rfl (by kernel_rfl) (by decide) (fun K hK => ?_);refine goes_ Tryz.func40 (by kernel_rfl) rfl #[.int .u64 (expV u x y)] (by rfl) rfl rfl (by simp only [List.map_toArray,List.map_cons,List.map_nil];try rfl) ?_;with_reducible refine ((half_calls _ HL10.out _ HUE.out)).mono ?_
          rintro e w11 ⟨rfl,hg⟩;refine ⟨_,rfl,?_⟩;have HO11:=Am (own_kept HO10.out hg (by simp));have HT11:=Am (HT10.out.trans' (Tn.gb0 hg _));rw [← HHV.out];refine hK.out _ _ ⟨hg.cell hHeld.1 (by simp),hg.cell hHeld.2 (by simp)⟩ (fun hHeld => ?_);clear hK K;refine norm_ (a':=?_) ?_ ?_
          rotate_left
          · show Act.put _ (some 37) _ = _
            simp only [NR];rfl
          refine one_ (i:=12) (N:=some 38) (bm 15 8191) rfl rfl (by kernel_rfl) (by decide) (fun K hK => ?_);refine value_ (w1:=?_) (v:=?_) (by rfl) rfl ?_ ?_
          rotate_left 2
          · go_simp
            constructor
            · rfl
            · rfl
          have HR6:=Am (own_kept HO11.out (gA _ (.cells #[.int .u64 hv] 29) none) (by simp));have HT6:=Am (HT11.out.trans' (Tn.alloc w11 (.cells #[.int .u64 hv] 29) _));have HL6:=Am (show Rd (Ei .u64) (w11.alloc (.cells #[.int .u64 hv] 29)) (some ⟨w11.heap.size,0,none⟩) 1 [hv] from rd_lit (Ei .u64) w11 29 [hv] (by simp));have HZ6:=Am HT6.out.size;refine hK.out _ _ ⟨(gA _ (.cells #[.int .u64 hv] 29) none).cell hHeld.1 (by simp),(gA _ (.cells #[.int .u64 hv] 29) none).cell hHeld.2 (by simp)⟩ (fun hHeld => ?_);clear hK K;refine norm_ (a':=?_) ?_ ?_
          rotate_left
          · show Act.put _ (some 38) _ = _
            simp only [NR];rfl
          refine one_ (i:=13) (N:=some 39) (bm 15 16383) rfl rfl (by kernel_rfl) (by decide) (fun K hK => ?_);refine app_at_step (Ei .u64) (by rfl) rfl w2.heap.size (.tmp 26) (.tmp 38) 42 29 (.int .u64 0) 8 rfl Tryz.underlying42 (by kernel_rfl) rfl (by decide) ov j fs [hv] _ 1 1 rfl rfl HR6.out HL6.out HZ6.out (by omega) ?_;intro v7 w7 ho hg hat;have HO7:=Am ho;have HT7:=Am (HT6.out.trans' (Tn.of_gb (F:=fun k => w2.heap.size ≤ k) hg (fun k hk => (HR6.out.lt k hk).1)));have HC7a:=Am (hg.cell hHeld.1 (fun e => by have h1:=(HR6.out.lt nb e.symm).1;have h2:=HBL.out;omega));have HC7b:=Am (hg.cell hHeld.2 (fun e => by have h1:=(HR6.out.lt db e.symm).1;have h2:=HBL.out;omega));clear ho hg hat;refine hK.out _ _ ⟨HC7a.out,HC7b.out⟩ (fun hHeld => ?_);clear hK K;refine norm_ (a':=?_) ?_ ?_
          rotate_left
          · show Act.put _ (some 39) _ = _
            simp only [NR];rfl
          refine pu_ 14 (some 8) (bm 15 32767) (by kernel_rfl) ?_;refine done_ (by kernel_rfl) ?_;go_wp2_with fail
          go_roundg d
          case measure => omega
          case rel => exact ⟨j + 1,fs ++ [hv],_,rfl,by go_num,⟨by have:=HD.out;omega⟩,by omega,⟨HNEW.out.symm⟩,HO7,HT7⟩
/-- What all at a depth have together,of those below j. -/
def lev (ls : List Acc) (x : Int → Int) (d : Int) : Nat → Int
  | 0 => 0
  | j + 1 => lev ls x d j + (if depV ls (j : Int) = d then x j else 0)
def sumL (x : Int → Int) (ks : List Int) : Int:=(ks.map x).foldr (· + ·) 0
theorem sumL_cons (x : Int → Int) (k : Int) (r : List Int) : sumL x (k :: r) = x k + sumL x r:=rfl
theorem sumL_snoc (x : Int → Int) (k : Int) : ∀ r : List Int,sumL x (r ++ [k]) = sumL x r + x k
  | [] => by simp [sumL]
  | a :: r => by rw [List.cons_append,sumL_cons,sumL_cons,sumL_snoc x k r];omega
theorem kids_step {ls : List Acc} {p : Int} {j : Nat} (h : j < ls.length) : kidsV ls p (j + 1) = if parV ls (j : Int) = p then kidsV ls p j ++ [(j : Int)] else kidsV ls p j:=by
  rw [kidsV,parV_lt h]
  by_cases e : parV ls (j : Int) = p
  · rw [if_pos ⟨e,h⟩,if_pos e]
  · rw [if_neg (fun q => e q.1),if_neg e]
theorem sumV_in {ls : List Acc} (h : AccU ls) (p : Int) : U (sumV ls p):=sumF_in h 5 p
theorem sis_sum {ls : List Acc} (t : Tree ls) {p : Int} : ∀ {j : Nat},j ≤ ls.length → sisV ls (kidsV ls p j) = sumL (shV ls) (kidsV ls p j) ∧ 0 ≤ sumL (shV ls) (kidsV ls p j) ∧ sumL (shV ls) (kidsV ls p j) ≤ 4096 * ((kidsV ls p j).length : Int)
  | 0,_ => by simp [kidsV,sisV,sumL]
  | j + 1,h => by
    obtain ⟨a,b,c⟩:=sis_sum t (p:=p) (j:=j) (by omega);have hs:=t.sh j (by omega);have hl:=kidsV_len ls p j;have h64:=t.le;rw [kids_step (by omega)];split
    · rw [sumL_snoc]
      refine ⟨?_,by omega,by rw [List.length_append];simp;omega⟩;unfold sisV at a ⊢;rw [List.foldl_append,a];simp only [List.foldl_cons,List.foldl_nil];rw [t.kidw j (by omega),w64_in (by omega) (by omega)]
    · exact ⟨a,b,c⟩
/-- The shares of an account's children together. -/
def totS (ls : List Acc) (p : Int) : Int:=sumL (shV ls) (kidsV ls p ls.length)
/-- How many are at a depth. -/
def many (ls : List Acc) (d : Int) : Int:=lev ls (fun _ => 1) d ls.length
theorem rd_sums {ls : List Acc} {i : Int} (h0 : 0 ≤ i) (h1 : i < ls.length) : rd (sumsV ls) i = sumV ls i:=by
  obtain ⟨j,rfl⟩ : ∃ j : Nat,i = j:=⟨i.toNat,by omega⟩;exact rd_range (F:=fun k : Nat => sumV ls (k : Int)) (by omega)
end Go.Proofs.YtodibpddlibneaaGreatDoor.T
