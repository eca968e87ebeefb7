/- The texts of this claim, put together by program, what it does not name left out: part 1. Conditions: each theorem's own. -/
import Derived.Test.YtbhijfbjdbjpbaaDoorZ0
namespace Go.Proofs.YtbhijfbjdbjpbaaDoor.GSH
open Go.RowKit Go.Proofs.YtbhijfbjdbjpbaaDoorW.PrintWords Go.Proofs.YtbhijfbjdbjpbaaDoorW.PrintLast Go.Proofs.YtbhijfbjdbjpbaaDoorW.PrintMore
attribute [local go_sem] max2_int min2_int max_two min_two max_three min_three max_four min_four   -- for this text's walks alone
set_option linter.unusedVariables false
set_option linter.unusedSimpArgs false
/-- A call of a function without a body,at which the model itself answers: it runs here and now. -/
def CallsX (P : Program) (f : FuncId) (args : Array Value) (w : World) (R : Ending → World → Prop) : Prop:=∃ v w',(callFunc f args).run P w = .ok (.value v) w' ∧ R (.returned v) w'
theorem CallsX.mono {P : Program} {f : FuncId} {args : Array Value} {w : World} {R R' : Ending → World → Prop} (h : CallsX P f args w R) (hr : ∀ e w',R e w' → R' e w') : CallsX P f args w R':=by
 obtain ⟨v,w',h1,h2⟩:=h
 exact ⟨v,w',h1,hr _ _ h2⟩
theorem goesX_ {P : Program} {ops : Array Oper} {Q : Exit → Act → World → Prop} {rest : List Oper} {oi : Oper} {a : Act} {w : World} (N : Option Tmp) (hd : oi.dst = N) (hg : oi.guard = none) {f : FuncId} {xs : Array Operand} {ts : Array TypeId} (args : Array Value)
  (hop : oi.op = .call { callee:=.value (.func f),args:=xs,argTypes:=ts }) (hargs : xs.map a.eval = args)
  (h : CallsX P f args w fun e w' => ∃ v,e = .returned v ∧ wpList P ops Q rest (a.put N v) w') : wpList P ops Q (oi :: rest) a w:=by
 refine wpList_plain hg fun K hK => ?_
 obtain ⟨v,w',he,v',hv,hk⟩:=h
 have hv' : v = v':=by injection hv
 subst hv'
 have hrun : (execOp a.eval oi).run P w = .ok (.value v) w':=by
  unfold execOp
  simp [hop,resolve,Deferred.ofValue,invoke,Act.eval,hargs,he]
 unfold Oper.wp
 rw [hrun]
 subst hd
 exact hK _ _ hk

/-- The Rungs,as the program's text lays them. -/
def rungsL : List Int:=[13043817825332782212,15511800964685064948,16915738899553466670,17664662643191237676,18051468387014017850,18248035989933441396,18347121020861646923,18396865112328554660,18421787711448657617,18434261669329232139,18440501815349552981,18443622680442407997,18445183311048607331,18445963675871538003,18446353870663572144,18446548971154807801,18446646522174239824,18446695297877410578,18446719685777359790,18446731879739425373,18446737976723480911,18446741025216264367,18446742549462845017,18446743311586182573,18446743692647863158,18446743883178706403,18446743978444128763,18446744026076840128,18446744049893195856,18446744061801373732,18446744067755462673,18446744070732507144]
/-- The variable 'rungs' of package ladder holds them. -/
def LaidW (w : World) : Prop:=∀ j : Nat,j < 32 → w.cell? ⟨0,j,none⟩ = some (.int .u64 (rd rungsL (j : Int)))
theorem laid_below {w w1 : World} (hL : LaidW w) (hb : Below w.heap.size w w1) : LaidW w1:=fun j hj => pw_cell_below hb (hL j hj)
def config_inside.f (a0 : Int) (a1 : Int) (a2 : Int) : Option (Bool):=if a0 ≥ a1 then (some (decide (a0 ≤ a2))) else (some false)
set_option maxHeartbeats 8000000 in
set_option maxRecDepth 100000 in
theorem config_inside.calls (a0 : Int) (a1 : Int) (a2 : Int) (r : Bool) (w : World) (h : config_inside.f a0 a1 a2 = some r) :
  Calls Tryd.prog 62 #[.int .i64 a0,.int .i64 a1,.int .i64 a2] w fun e w' => e = .returned (.bool r) ∧ Drawn0 w w':=by
 have H : (if a0 ≥ a1 then (some (decide (a0 ≤ a2))) else (some false)) = some r:=h
 clear h
 by_cases c4 : a0 ≥ a1
 ·rw [if_pos c4] at H
  have c4b0 : decide (a1 ≤ a0) = true:=decide_eq_true c4
  clear c4
  obtain rfl:=Option.some.inj H
  go_enter Tryd.func62,Tryd.ntmps62
  go_wp2
  go_ret
  exact ⟨by first | rfl | (simp;done) | (simp [*];done),by repeat (first | exact Drawn0.refl _ | apply Drawn0.step)⟩
 ·rw [if_neg c4] at H
  have c4b0 : decide (a1 ≤ a0) = false:=decide_eq_false c4
  clear c4
  obtain rfl:=Option.some.inj H
  go_enter Tryd.func62,Tryd.ntmps62
  go_wp2
  go_ret
  exact ⟨by first | rfl | (simp;done) | (simp [*];done),by repeat (first | exact Drawn0.refl _ | apply Drawn0.step)⟩

mutual
def config_asked_ranges.j0 : Nat → Bool → Int → Int → Int → Int → Int → Int → Int → Int → Option (Int)
 | 0,_,_,_,_,_,_,_,_,_ => none
 | k + 1,x3,x103000,x103001,x103002,x103003,x103004,x103005,x103006,x103007 => (config_inside.f x103003 1 1048576).bind fun t106 => (if t106 = true then ((config_inside.f x103004 0 1048576).bind fun t107 => (if t107 = true then ((config_inside.f x103005 0 1048576).bind fun t108 => (config_asked_ranges.j1 k x3 t108 x103000 x103001 x103002 x103003 x103004 x103005 x103006 x103007)) else (config_asked_ranges.j1 k x3 false x103000 x103001 x103002 x103003 x103004 x103005 x103006 x103007))) else (config_asked_ranges.j1 k x3 false x103000 x103001 x103002 x103003 x103004 x103005 x103006 x103007))
def config_asked_ranges.j1 : Nat → Bool → Bool → Int → Int → Int → Int → Int → Int → Int → Int → Option (Int)
 | 0,_,_,_,_,_,_,_,_,_,_ => none
 | k + 1,x3,x4,x103000,x103001,x103002,x103003,x103004,x103005,x103006,x103007 => if x3 = true then (if x4 = true then ((config_inside.f x103006 1 1048576).bind fun t109 => (if t109 = true then ((config_inside.f x103007 1 1073741824).bind fun t110 => (if t110 = true then (some 0) else (some 110))) else (some 110))) else (some 110)) else (some 110)
end
def config_asked_ranges.f (k : Nat) (a0_0 : Int) (a0_1 : Int) (a0_2 : Int) (a0_3 : Int) (a0_4 : Int) (a0_5 : Int) (a0_6 : Int) (a0_7 : Int) : Option (Int):=(config_inside.f a0_0 1 256).bind fun t103 => (if t103 = true then ((config_inside.f a0_1 1 128).bind fun t104 => (if t104 = true then ((config_inside.f a0_2 1 1048576).bind fun t105 => (config_asked_ranges.j0 k t105 a0_0 a0_1 a0_2 a0_3 a0_4 a0_5 a0_6 a0_7)) else (config_asked_ranges.j0 k false a0_0 a0_1 a0_2 a0_3 a0_4 a0_5 a0_6 a0_7))) else (config_asked_ranges.j0 k false a0_0 a0_1 a0_2 a0_3 a0_4 a0_5 a0_6 a0_7))
set_option maxHeartbeats 8000000 in
set_option maxRecDepth 100000 in
theorem config_asked_ranges.calls (k : Nat) (a0_0 : Int) (a0_1 : Int) (a0_2 : Int) (a0_3 : Int) (a0_4 : Int) (a0_5 : Int) (a0_6 : Int) (a0_7 : Int) (r : Int) (w : World) (h : config_asked_ranges.f k a0_0 a0_1 a0_2 a0_3 a0_4 a0_5 a0_6 a0_7 = some r) :
  Calls Tryd.prog 34 #[.agg #[.int .i64 a0_0,.int .i64 a0_1,.int .i64 a0_2,.int .i64 a0_3,.int .i64 a0_4,.int .i64 a0_5,.int .i64 a0_6,.int .i64 a0_7]] w fun e w' => e = .returned (.int .i64 r) ∧ Below w.heap.size w w':=by
 have hu69:=Tryd.underlying69
 have HB:=Am (Below.refl w.heap.size w)
 have H : ((config_inside.f a0_0 1 256).bind fun t103 => (if t103 = true then ((config_inside.f a0_1 1 128).bind fun t104 => (if t104 = true then ((config_inside.f a0_2 1 1048576).bind fun t105 => (config_asked_ranges.j0 k t105 a0_0 a0_1 a0_2 a0_3 a0_4 a0_5 a0_6 a0_7)) else (config_asked_ranges.j0 k false a0_0 a0_1 a0_2 a0_3 a0_4 a0_5 a0_6 a0_7))) else (config_asked_ranges.j0 k false a0_0 a0_1 a0_2 a0_3 a0_4 a0_5 a0_6 a0_7))) = some r:=h
 clear h
 have HC2:=Aside0.mk H
 clear H
 go_enter Tryd.func34,Tryd.ntmps34
 go_upto_region 1 with (first | ((with_reducible refine gate_dst (N:=1) rfl ?_);refine bxA 1 #[.int .i64 a0_0,.int .i64 a0_1,.int .i64 a0_2,.int .i64 a0_3,.int .i64 a0_4,.int .i64 a0_5,.int .i64 a0_6,.int .i64 a0_7] 69 ?_;intro gb102 hg w3 hbox hb;have n0_:=Am (below_step bA hb);have n1_:=Am (hbox);have n2_:=Am (gwA hg bA);have n3_:=Am (gwA hg bA);clear HB;have HB:=n0_;have BK102:=n1_;have GW102:=n2_;have GE102:=n3_;clear n0_ n1_ n2_ n3_ hb hbox hg))
 (try simp only [Act.put,List.setIfInBounds_toArray,List.set_cons_zero,List.set_cons_succ])
 go_cut [3] (fun v3 wc => ∃ (kq : Nat) (x3_1 : Bool),v3 = .bool x3_1 ∧ Aside0 (config_asked_ranges.j0 kq x3_1 a0_0 a0_1 a0_2 a0_3 a0_4 a0_5 a0_6 a0_7 = some r) ∧ Aside0 (kq ≤ k) ∧ Aside0 (wc.heap[gb102]? = some (.cells #[.int .i64 a0_0,.int .i64 a0_1,.int .i64 a0_2,.int .i64 a0_3,.int .i64 a0_4,.int .i64 a0_5,.int .i64 a0_6,.int .i64 a0_7] 69 (0,0))) ∧ Aside0 (Below w.heap.size w wc))
 case first =>
  have H:=HC2.out
  clear HC2;replace H:=Option.bind_eq_some_iff.mp H;obtain ⟨t103,A40,H⟩:=H;replace H : (if t103 = true then ((config_inside.f a0_1 1 128).bind fun t104 => (if t104 = true then ((config_inside.f a0_2 1 1048576).bind fun t105 => (config_asked_ranges.j0 k t105 a0_0 a0_1 a0_2 a0_3 a0_4 a0_5 a0_6 a0_7)) else (config_asked_ranges.j0 k false a0_0 a0_1 a0_2 a0_3 a0_4 a0_5 a0_6 a0_7))) else (config_asked_ranges.j0 k false a0_0 a0_1 a0_2 a0_3 a0_4 a0_5 a0_6 a0_7)) = some r:=H;have A4:=Aside0.mk A40;clear A40
  by_cases c5 : t103 = true
  ·subst c5
   have H1 : ((config_inside.f a0_1 1 128).bind fun t104 => (if t104 = true then ((config_inside.f a0_2 1 1048576).bind fun t105 => (config_asked_ranges.j0 k t105 a0_0 a0_1 a0_2 a0_3 a0_4 a0_5 a0_6 a0_7)) else (config_asked_ranges.j0 k false a0_0 a0_1 a0_2 a0_3 a0_4 a0_5 a0_6 a0_7))) = some r:=by rw [if_pos rfl] at H;exact H
   clear H
   have H:=H1
   clear H1;replace H:=Option.bind_eq_some_iff.mp H;obtain ⟨t104,A60,H⟩:=H;replace H : (if t104 = true then ((config_inside.f a0_2 1 1048576).bind fun t105 => (config_asked_ranges.j0 k t105 a0_0 a0_1 a0_2 a0_3 a0_4 a0_5 a0_6 a0_7)) else (config_asked_ranges.j0 k false a0_0 a0_1 a0_2 a0_3 a0_4 a0_5 a0_6 a0_7)) = some r:=H;have A6:=Aside0.mk A60;clear A60
   by_cases c7 : t104 = true
   ·subst c7
    have H1 : ((config_inside.f a0_2 1 1048576).bind fun t105 => (config_asked_ranges.j0 k t105 a0_0 a0_1 a0_2 a0_3 a0_4 a0_5 a0_6 a0_7)) = some r:=by rw [if_pos rfl] at H;exact H
    clear H
    have H:=H1
    clear H1;replace H:=Option.bind_eq_some_iff.mp H;obtain ⟨t105,A80,H⟩:=H;replace H : (config_asked_ranges.j0 k t105 a0_0 a0_1 a0_2 a0_3 a0_4 a0_5 a0_6 a0_7) = some r:=H;have A8:=Aside0.mk A80;clear A80
    have H':=Aside0.mk H
    clear H
    have hcz9_0 : w3.cell? ⟨gb102,0,none⟩ = some (.int .i64 a0_0):=(blk_cell BK102.out 0).trans rfl
    have hcz9_1 : w3.cell? ⟨gb102,1,none⟩ = some (.int .i64 a0_1):=(blk_cell BK102.out 1).trans rfl
    have hcz9_2 : w3.cell? ⟨gb102,2,none⟩ = some (.int .i64 a0_2):=(blk_cell BK102.out 2).trans rfl
    have hcz9_3 : w3.cell? ⟨gb102,3,none⟩ = some (.int .i64 a0_3):=(blk_cell BK102.out 3).trans rfl
    have hcz9_4 : w3.cell? ⟨gb102,4,none⟩ = some (.int .i64 a0_4):=(blk_cell BK102.out 4).trans rfl
    have hcz9_5 : w3.cell? ⟨gb102,5,none⟩ = some (.int .i64 a0_5):=(blk_cell BK102.out 5).trans rfl
    have hcz9_6 : w3.cell? ⟨gb102,6,none⟩ = some (.int .i64 a0_6):=(blk_cell BK102.out 6).trans rfl
    have hcz9_7 : w3.cell? ⟨gb102,7,none⟩ = some (.int .i64 a0_7):=(blk_cell BK102.out 7).trans rfl
    have hfz9_0:=blk_frozen BK102.out 0
    have hfz9_1:=blk_frozen BK102.out 1
    have hfz9_2:=blk_frozen BK102.out 2
    have hfz9_3:=blk_frozen BK102.out 3
    have hfz9_4:=blk_frozen BK102.out 4
    have hfz9_5:=blk_frozen BK102.out 5
    have hfz9_6:=blk_frozen BK102.out 6
    have hfz9_7:=blk_frozen BK102.out 7
    go_wp2_with (first | ((with_reducible refine gate_callee (f:=62) rfl ?_);refine goesL_ (some 8) rfl rfl Tryd.func62 (by kernel_rfl) rfl #[.int .i64 a0_0,.int .i64 1,.int .i64 256] rfl aA ?_;(with_reducible refine (config_inside.calls a0_0 1 256 true _ A4.out).mono ?_);rintro e w' ⟨rfl,⟨nd,rfl⟩⟩;refine ⟨_,rfl,?_⟩) | (go_at_call 62;(with_reducible refine (config_inside.calls a0_1 1 128 true _ A6.out).mono ?_);rintro e w' ⟨rfl,⟨nd,rfl⟩⟩) | (go_at_call 62;(with_reducible refine (config_inside.calls a0_2 1 1048576 t105 _ A8.out).mono ?_);rintro e w' ⟨rfl,⟨nd,rfl⟩⟩))
    go_meet
    case rel => exact ⟨_,(t105),(by first | rfl | (simp;done) | (simp [*];done)),H',⟨by first | omega | exact Nat.le_refl _⟩,⟨by exact kA⟩,⟨bA⟩⟩
   ·replace c7:=Bool.eq_false_iff.mpr c7
    subst c7
    have H1 : (config_asked_ranges.j0 k false a0_0 a0_1 a0_2 a0_3 a0_4 a0_5 a0_6 a0_7) = some r:=by rw [if_neg (show ¬ (false = true) by decide)] at H;exact H
    clear H
    have H:=H1
    clear H1
    have H':=Aside0.mk H
    clear H
    have hcz10_0 : w3.cell? ⟨gb102,0,none⟩ = some (.int .i64 a0_0):=(blk_cell BK102.out 0).trans rfl
    have hcz10_1 : w3.cell? ⟨gb102,1,none⟩ = some (.int .i64 a0_1):=(blk_cell BK102.out 1).trans rfl
    have hcz10_2 : w3.cell? ⟨gb102,2,none⟩ = some (.int .i64 a0_2):=(blk_cell BK102.out 2).trans rfl
    have hcz10_3 : w3.cell? ⟨gb102,3,none⟩ = some (.int .i64 a0_3):=(blk_cell BK102.out 3).trans rfl
    have hcz10_4 : w3.cell? ⟨gb102,4,none⟩ = some (.int .i64 a0_4):=(blk_cell BK102.out 4).trans rfl
    have hcz10_5 : w3.cell? ⟨gb102,5,none⟩ = some (.int .i64 a0_5):=(blk_cell BK102.out 5).trans rfl
    have hcz10_6 : w3.cell? ⟨gb102,6,none⟩ = some (.int .i64 a0_6):=(blk_cell BK102.out 6).trans rfl
    have hcz10_7 : w3.cell? ⟨gb102,7,none⟩ = some (.int .i64 a0_7):=(blk_cell BK102.out 7).trans rfl
    have hfz10_0:=blk_frozen BK102.out 0
    have hfz10_1:=blk_frozen BK102.out 1
    have hfz10_2:=blk_frozen BK102.out 2
    have hfz10_3:=blk_frozen BK102.out 3
    have hfz10_4:=blk_frozen BK102.out 4
    have hfz10_5:=blk_frozen BK102.out 5
    have hfz10_6:=blk_frozen BK102.out 6
    have hfz10_7:=blk_frozen BK102.out 7
    go_wp2_with (first | ((with_reducible refine gate_callee (f:=62) rfl ?_);refine goesL_ (some 8) rfl rfl Tryd.func62 (by kernel_rfl) rfl #[.int .i64 a0_0,.int .i64 1,.int .i64 256] rfl aA ?_;(with_reducible refine (config_inside.calls a0_0 1 256 true _ A4.out).mono ?_);rintro e w' ⟨rfl,⟨nd,rfl⟩⟩;refine ⟨_,rfl,?_⟩) | (go_at_call 62;(with_reducible refine (config_inside.calls a0_1 1 128 false _ A6.out).mono ?_);rintro e w' ⟨rfl,⟨nd,rfl⟩⟩))
    go_meet
    case rel => exact ⟨_,(false),(by first | rfl | (simp;done) | (simp [*];done)),H',⟨by first | omega | exact Nat.le_refl _⟩,⟨by exact kA⟩,⟨bA⟩⟩
  ·replace c5:=Bool.eq_false_iff.mpr c5
   subst c5
   have H1 : (config_asked_ranges.j0 k false a0_0 a0_1 a0_2 a0_3 a0_4 a0_5 a0_6 a0_7) = some r:=by rw [if_neg (show ¬ (false = true) by decide)] at H;exact H
   clear H
   have H:=H1
   clear H1
   have H':=Aside0.mk H
   clear H
   have hcz11_0 : w3.cell? ⟨gb102,0,none⟩ = some (.int .i64 a0_0):=(blk_cell BK102.out 0).trans rfl
   have hcz11_1 : w3.cell? ⟨gb102,1,none⟩ = some (.int .i64 a0_1):=(blk_cell BK102.out 1).trans rfl
   have hcz11_2 : w3.cell? ⟨gb102,2,none⟩ = some (.int .i64 a0_2):=(blk_cell BK102.out 2).trans rfl
   have hcz11_3 : w3.cell? ⟨gb102,3,none⟩ = some (.int .i64 a0_3):=(blk_cell BK102.out 3).trans rfl
   have hcz11_4 : w3.cell? ⟨gb102,4,none⟩ = some (.int .i64 a0_4):=(blk_cell BK102.out 4).trans rfl
   have hcz11_5 : w3.cell? ⟨gb102,5,none⟩ = some (.int .i64 a0_5):=(blk_cell BK102.out 5).trans rfl
   have hcz11_6 : w3.cell? ⟨gb102,6,none⟩ = some (.int .i64 a0_6):=(blk_cell BK102.out 6).trans rfl
   have hcz11_7 : w3.cell? ⟨gb102,7,none⟩ = some (.int .i64 a0_7):=(blk_cell BK102.out 7).trans rfl
   have hfz11_0:=blk_frozen BK102.out 0
   have hfz11_1:=blk_frozen BK102.out 1
   have hfz11_2:=blk_frozen BK102.out 2
   have hfz11_3:=blk_frozen BK102.out 3
   have hfz11_4:=blk_frozen BK102.out 4
   have hfz11_5:=blk_frozen BK102.out 5
   have hfz11_6:=blk_frozen BK102.out 6
   have hfz11_7:=blk_frozen BK102.out 7
   go_wp2_with (first | ((with_reducible refine gate_callee (f:=62) rfl ?_);refine goesL_ (some 8) rfl rfl Tryd.func62 (by kernel_rfl) rfl #[.int .i64 a0_0,.int .i64 1,.int .i64 256] rfl aA ?_;(with_reducible refine (config_inside.calls a0_0 1 256 false _ A4.out).mono ?_);rintro e w' ⟨rfl,⟨nd,rfl⟩⟩;refine ⟨_,rfl,?_⟩))
   go_meet
   case rel => exact ⟨_,(false),(by first | rfl | (simp;done) | (simp [*];done)),H',⟨by first | omega | exact Nat.le_refl _⟩,⟨by exact kA⟩,⟨bA⟩⟩
 case rest =>
  clear HC2
  try clear p2
  try clear c3
  try clear c5
  try clear c6
  try clear c7
  try clear hcz10_0
  try clear hcz10_1
  try clear hcz10_2
  try clear hcz10_3
  try clear hcz10_4
  try clear hcz10_5
  try clear hcz10_6
  try clear hcz10_7
  try clear hcz11_0
  try clear hcz11_1
  try clear hcz11_2
  try clear hcz11_3
  try clear hcz11_4
  try clear hcz11_5
  try clear hcz11_6
  try clear hcz11_7
  try clear hcz9_0
  try clear hcz9_1
  try clear hcz9_2
  try clear hcz9_3
  try clear hcz9_4
  try clear hcz9_5
  try clear hcz9_6
  try clear hcz9_7
  try clear hfz10_0
  try clear hfz10_1
  try clear hfz10_2
  try clear hfz10_3
  try clear hfz10_4
  try clear hfz10_5
  try clear hfz10_6
  try clear hfz10_7
  try clear hfz11_0
  try clear hfz11_1
  try clear hfz11_2
  try clear hfz11_3
  try clear hfz11_4
  try clear hfz11_5
  try clear hfz11_6
  try clear hfz11_7
  try clear hfz9_0
  try clear hfz9_1
  try clear hfz9_2
  try clear hfz9_3
  try clear hfz9_4
  try clear hfz9_5
  try clear hfz9_6
  try clear hfz9_7
  obtain ⟨kq,x3_1,rfl,HA,HJ1,BK102,HB⟩:=hcut
  cases kq with
  | zero => exact absurd HA.out (by simp [config_asked_ranges.j0])
  | succ kj1 =>
   have H:=HA.out
   clear HA
   simp only [config_asked_ranges.j0] at H
   have HC12:=Aside0.mk H
   clear H
   go_upto_region 2 with (fail)
   go_cut [4] (fun v4 wc => ∃ (kq : Nat) (x4_11 : Bool),v4 = .bool x4_11 ∧ Aside0 (config_asked_ranges.j1 kq x3_1 x4_11 a0_0 a0_1 a0_2 a0_3 a0_4 a0_5 a0_6 a0_7 = some r) ∧ Aside0 (kq ≤ kj1) ∧ Aside0 (wc.heap[gb102]? = some (.cells #[.int .i64 a0_0,.int .i64 a0_1,.int .i64 a0_2,.int .i64 a0_3,.int .i64 a0_4,.int .i64 a0_5,.int .i64 a0_6,.int .i64 a0_7] 69 (0,0))) ∧ Aside0 (Below w.heap.size w wc))
   case first =>
    have H:=HC12.out
    clear HC12;replace H:=Option.bind_eq_some_iff.mp H;obtain ⟨t106,A130,H⟩:=H;replace H : (if t106 = true then ((config_inside.f a0_4 0 1048576).bind fun t107 => (if t107 = true then ((config_inside.f a0_5 0 1048576).bind fun t108 => (config_asked_ranges.j1 kj1 x3_1 t108 a0_0 a0_1 a0_2 a0_3 a0_4 a0_5 a0_6 a0_7)) else (config_asked_ranges.j1 kj1 x3_1 false a0_0 a0_1 a0_2 a0_3 a0_4 a0_5 a0_6 a0_7))) else (config_asked_ranges.j1 kj1 x3_1 false a0_0 a0_1 a0_2 a0_3 a0_4 a0_5 a0_6 a0_7)) = some r:=H;have A13:=Aside0.mk A130;clear A130
    by_cases c14 : t106 = true
    ·subst c14
     have H1 : ((config_inside.f a0_4 0 1048576).bind fun t107 => (if t107 = true then ((config_inside.f a0_5 0 1048576).bind fun t108 => (config_asked_ranges.j1 kj1 x3_1 t108 a0_0 a0_1 a0_2 a0_3 a0_4 a0_5 a0_6 a0_7)) else (config_asked_ranges.j1 kj1 x3_1 false a0_0 a0_1 a0_2 a0_3 a0_4 a0_5 a0_6 a0_7))) = some r:=by rw [if_pos rfl] at H;exact H
     clear H
     have H:=H1
     clear H1;replace H:=Option.bind_eq_some_iff.mp H;obtain ⟨t107,A150,H⟩:=H;replace H : (if t107 = true then ((config_inside.f a0_5 0 1048576).bind fun t108 => (config_asked_ranges.j1 kj1 x3_1 t108 a0_0 a0_1 a0_2 a0_3 a0_4 a0_5 a0_6 a0_7)) else (config_asked_ranges.j1 kj1 x3_1 false a0_0 a0_1 a0_2 a0_3 a0_4 a0_5 a0_6 a0_7)) = some r:=H;have A15:=Aside0.mk A150;clear A150
     by_cases c16 : t107 = true
     ·subst c16
      have H1 : ((config_inside.f a0_5 0 1048576).bind fun t108 => (config_asked_ranges.j1 kj1 x3_1 t108 a0_0 a0_1 a0_2 a0_3 a0_4 a0_5 a0_6 a0_7)) = some r:=by rw [if_pos rfl] at H;exact H
      clear H
      have H:=H1
      clear H1;replace H:=Option.bind_eq_some_iff.mp H;obtain ⟨t108,A170,H⟩:=H;replace H : (config_asked_ranges.j1 kj1 x3_1 t108 a0_0 a0_1 a0_2 a0_3 a0_4 a0_5 a0_6 a0_7) = some r:=H;have A17:=Aside0.mk A170;clear A170
      have H':=Aside0.mk H
      clear H
      have hcz18_0 : wc.cell? ⟨gb102,0,none⟩ = some (.int .i64 a0_0):=(blk_cell BK102.out 0).trans rfl
      have hcz18_1 : wc.cell? ⟨gb102,1,none⟩ = some (.int .i64 a0_1):=(blk_cell BK102.out 1).trans rfl
      have hcz18_2 : wc.cell? ⟨gb102,2,none⟩ = some (.int .i64 a0_2):=(blk_cell BK102.out 2).trans rfl
      have hcz18_3 : wc.cell? ⟨gb102,3,none⟩ = some (.int .i64 a0_3):=(blk_cell BK102.out 3).trans rfl
      have hcz18_4 : wc.cell? ⟨gb102,4,none⟩ = some (.int .i64 a0_4):=(blk_cell BK102.out 4).trans rfl
      have hcz18_5 : wc.cell? ⟨gb102,5,none⟩ = some (.int .i64 a0_5):=(blk_cell BK102.out 5).trans rfl
      have hcz18_6 : wc.cell? ⟨gb102,6,none⟩ = some (.int .i64 a0_6):=(blk_cell BK102.out 6).trans rfl
      have hcz18_7 : wc.cell? ⟨gb102,7,none⟩ = some (.int .i64 a0_7):=(blk_cell BK102.out 7).trans rfl
      have hfz18_0:=blk_frozen BK102.out 0
      have hfz18_1:=blk_frozen BK102.out 1
      have hfz18_2:=blk_frozen BK102.out 2
      have hfz18_3:=blk_frozen BK102.out 3
      have hfz18_4:=blk_frozen BK102.out 4
      have hfz18_5:=blk_frozen BK102.out 5
      have hfz18_6:=blk_frozen BK102.out 6
      have hfz18_7:=blk_frozen BK102.out 7
      go_wp2_with (first | ((with_reducible refine gate_callee (f:=62) rfl ?_);refine goesL_ (some 24) rfl rfl Tryd.func62 (by kernel_rfl) rfl #[.int .i64 a0_3,.int .i64 1,.int .i64 1048576] rfl aA ?_;(with_reducible refine (config_inside.calls a0_3 1 1048576 true _ A13.out).mono ?_);rintro e w' ⟨rfl,⟨nd,rfl⟩⟩;refine ⟨_,rfl,?_⟩) | (go_at_call 62;(with_reducible refine (config_inside.calls a0_4 0 1048576 true _ A15.out).mono ?_);rintro e w' ⟨rfl,⟨nd,rfl⟩⟩) | (go_at_call 62;(with_reducible refine (config_inside.calls a0_5 0 1048576 t108 _ A17.out).mono ?_);rintro e w' ⟨rfl,⟨nd,rfl⟩⟩))
      go_meet
      case rel => exact ⟨_,(t108),(by first | rfl | (simp;done) | (simp [*];done)),H',⟨by have:=HJ1.out;first | omega | exact Nat.le_refl _⟩,⟨by exact kA⟩,⟨bA⟩⟩
     ·replace c16:=Bool.eq_false_iff.mpr c16
      subst c16
      have H1 : (config_asked_ranges.j1 kj1 x3_1 false a0_0 a0_1 a0_2 a0_3 a0_4 a0_5 a0_6 a0_7) = some r:=by rw [if_neg (show ¬ (false = true) by decide)] at H;exact H
      clear H
      have H:=H1
      clear H1
      have H':=Aside0.mk H
      clear H
      have hcz19_0 : wc.cell? ⟨gb102,0,none⟩ = some (.int .i64 a0_0):=(blk_cell BK102.out 0).trans rfl
      have hcz19_1 : wc.cell? ⟨gb102,1,none⟩ = some (.int .i64 a0_1):=(blk_cell BK102.out 1).trans rfl
      have hcz19_2 : wc.cell? ⟨gb102,2,none⟩ = some (.int .i64 a0_2):=(blk_cell BK102.out 2).trans rfl
      have hcz19_3 : wc.cell? ⟨gb102,3,none⟩ = some (.int .i64 a0_3):=(blk_cell BK102.out 3).trans rfl
      have hcz19_4 : wc.cell? ⟨gb102,4,none⟩ = some (.int .i64 a0_4):=(blk_cell BK102.out 4).trans rfl
      have hcz19_5 : wc.cell? ⟨gb102,5,none⟩ = some (.int .i64 a0_5):=(blk_cell BK102.out 5).trans rfl
      have hcz19_6 : wc.cell? ⟨gb102,6,none⟩ = some (.int .i64 a0_6):=(blk_cell BK102.out 6).trans rfl
      have hcz19_7 : wc.cell? ⟨gb102,7,none⟩ = some (.int .i64 a0_7):=(blk_cell BK102.out 7).trans rfl
      have hfz19_0:=blk_frozen BK102.out 0
      have hfz19_1:=blk_frozen BK102.out 1
      have hfz19_2:=blk_frozen BK102.out 2
      have hfz19_3:=blk_frozen BK102.out 3
      have hfz19_4:=blk_frozen BK102.out 4
      have hfz19_5:=blk_frozen BK102.out 5
      have hfz19_6:=blk_frozen BK102.out 6
      have hfz19_7:=blk_frozen BK102.out 7
      go_wp2_with (first | ((with_reducible refine gate_callee (f:=62) rfl ?_);refine goesL_ (some 24) rfl rfl Tryd.func62 (by kernel_rfl) rfl #[.int .i64 a0_3,.int .i64 1,.int .i64 1048576] rfl aA ?_;(with_reducible refine (config_inside.calls a0_3 1 1048576 true _ A13.out).mono ?_);rintro e w' ⟨rfl,⟨nd,rfl⟩⟩;refine ⟨_,rfl,?_⟩) | (go_at_call 62;(with_reducible refine (config_inside.calls a0_4 0 1048576 false _ A15.out).mono ?_);rintro e w' ⟨rfl,⟨nd,rfl⟩⟩))
      go_meet
      case rel => exact ⟨_,(false),(by first | rfl | (simp;done) | (simp [*];done)),H',⟨by have:=HJ1.out;first | omega | exact Nat.le_refl _⟩,⟨by exact kA⟩,⟨bA⟩⟩
    ·replace c14:=Bool.eq_false_iff.mpr c14
     subst c14
     have H1 : (config_asked_ranges.j1 kj1 x3_1 false a0_0 a0_1 a0_2 a0_3 a0_4 a0_5 a0_6 a0_7) = some r:=by rw [if_neg (show ¬ (false = true) by decide)] at H;exact H
     clear H
     have H:=H1
     clear H1
     have H':=Aside0.mk H
     clear H
     have hcz20_0 : wc.cell? ⟨gb102,0,none⟩ = some (.int .i64 a0_0):=(blk_cell BK102.out 0).trans rfl
     have hcz20_1 : wc.cell? ⟨gb102,1,none⟩ = some (.int .i64 a0_1):=(blk_cell BK102.out 1).trans rfl
     have hcz20_2 : wc.cell? ⟨gb102,2,none⟩ = some (.int .i64 a0_2):=(blk_cell BK102.out 2).trans rfl
     have hcz20_3 : wc.cell? ⟨gb102,3,none⟩ = some (.int .i64 a0_3):=(blk_cell BK102.out 3).trans rfl
     have hcz20_4 : wc.cell? ⟨gb102,4,none⟩ = some (.int .i64 a0_4):=(blk_cell BK102.out 4).trans rfl
     have hcz20_5 : wc.cell? ⟨gb102,5,none⟩ = some (.int .i64 a0_5):=(blk_cell BK102.out 5).trans rfl
     have hcz20_6 : wc.cell? ⟨gb102,6,none⟩ = some (.int .i64 a0_6):=(blk_cell BK102.out 6).trans rfl
     have hcz20_7 : wc.cell? ⟨gb102,7,none⟩ = some (.int .i64 a0_7):=(blk_cell BK102.out 7).trans rfl
     have hfz20_0:=blk_frozen BK102.out 0
     have hfz20_1:=blk_frozen BK102.out 1
     have hfz20_2:=blk_frozen BK102.out 2
     have hfz20_3:=blk_frozen BK102.out 3
     have hfz20_4:=blk_frozen BK102.out 4
     have hfz20_5:=blk_frozen BK102.out 5
     have hfz20_6:=blk_frozen BK102.out 6
     have hfz20_7:=blk_frozen BK102.out 7
     go_wp2_with (first | ((with_reducible refine gate_callee (f:=62) rfl ?_);refine goesL_ (some 24) rfl rfl Tryd.func62 (by kernel_rfl) rfl #[.int .i64 a0_3,.int .i64 1,.int .i64 1048576] rfl aA ?_;(with_reducible refine (config_inside.calls a0_3 1 1048576 false _ A13.out).mono ?_);rintro e w' ⟨rfl,⟨nd,rfl⟩⟩;refine ⟨_,rfl,?_⟩))
     go_meet
     case rel => exact ⟨_,(false),(by first | rfl | (simp;done) | (simp [*];done)),H',⟨by have:=HJ1.out;first | omega | exact Nat.le_refl _⟩,⟨by exact kA⟩,⟨bA⟩⟩
   case rest =>
    clear HC12
    try clear c1
    try clear p2
    try clear c3
    try clear c5
    try clear c6
    try clear c7
    try clear c14
    try clear c16
    try clear hcz10_0
    try clear hcz10_1
    try clear hcz10_2
    try clear hcz10_3
    try clear hcz10_4
    try clear hcz10_5
    try clear hcz10_6
    try clear hcz10_7
    try clear hcz11_0
    try clear hcz11_1
    try clear hcz11_2
    try clear hcz11_3
    try clear hcz11_4
    try clear hcz11_5
    try clear hcz11_6
    try clear hcz11_7
    try clear hcz18_0
    try clear hcz18_1
    try clear hcz18_2
    try clear hcz18_3
    try clear hcz18_4
    try clear hcz18_5
    try clear hcz18_6
    try clear hcz18_7
    try clear hcz19_0
    try clear hcz19_1
    try clear hcz19_2
    try clear hcz19_3
    try clear hcz19_4
    try clear hcz19_5
    try clear hcz19_6
    try clear hcz19_7
    try clear hcz20_0
    try clear hcz20_1
    try clear hcz20_2
    try clear hcz20_3
    try clear hcz20_4
    try clear hcz20_5
    try clear hcz20_6
    try clear hcz20_7
    try clear hcz9_0
    try clear hcz9_1
    try clear hcz9_2
    try clear hcz9_3
    try clear hcz9_4
    try clear hcz9_5
    try clear hcz9_6
    try clear hcz9_7
    try clear hfz10_0
    try clear hfz10_1
    try clear hfz10_2
    try clear hfz10_3
    try clear hfz10_4
    try clear hfz10_5
    try clear hfz10_6
    try clear hfz10_7
    try clear hfz11_0
    try clear hfz11_1
    try clear hfz11_2
    try clear hfz11_3
    try clear hfz11_4
    try clear hfz11_5
    try clear hfz11_6
    try clear hfz11_7
    try clear hfz18_0
    try clear hfz18_1
    try clear hfz18_2
    try clear hfz18_3
    try clear hfz18_4
    try clear hfz18_5
    try clear hfz18_6
    try clear hfz18_7
    try clear hfz19_0
    try clear hfz19_1
    try clear hfz19_2
    try clear hfz19_3
    try clear hfz19_4
    try clear hfz19_5
    try clear hfz19_6
    try clear hfz19_7
    try clear hfz20_0
    try clear hfz20_1
    try clear hfz20_2
    try clear hfz20_3
    try clear hfz20_4
    try clear hfz20_5
    try clear hfz20_6
    try clear hfz20_7
    try clear hfz9_0
    try clear hfz9_1
    try clear hfz9_2
    try clear hfz9_3
    try clear hfz9_4
    try clear hfz9_5
    try clear hfz9_6
    try clear hfz9_7
    try clear p2
    obtain ⟨kq,x4_11,rfl,HA,HJ11,BK102,HB⟩:=hcut
    cases kq with
    | zero => exact absurd HA.out (by simp [config_asked_ranges.j1])
    | succ kj11 =>
     have H:=HA.out
     clear HA
     simp only [config_asked_ranges.j1] at H
     by_cases c21 : x3_1 = true
     ·subst c21
      have H1 : (if x4_11 = true then ((config_inside.f a0_6 1 1048576).bind fun t109 => (if t109 = true then ((config_inside.f a0_7 1 1073741824).bind fun t110 => (if t110 = true then (some 0) else (some 110))) else (some 110))) else (some 110)) = some r:=by rw [if_pos rfl] at H;exact H
      clear H
      have H:=H1
      clear H1
      by_cases c22 : x4_11 = true
      ·subst c22
       have H1 : ((config_inside.f a0_6 1 1048576).bind fun t109 => (if t109 = true then ((config_inside.f a0_7 1 1073741824).bind fun t110 => (if t110 = true then (some 0) else (some 110))) else (some 110))) = some r:=by rw [if_pos rfl] at H;exact H
       clear H
       have H:=H1
       clear H1;replace H:=Option.bind_eq_some_iff.mp H;obtain ⟨t109,A230,H⟩:=H;replace H : (if t109 = true then ((config_inside.f a0_7 1 1073741824).bind fun t110 => (if t110 = true then (some 0) else (some 110))) else (some 110)) = some r:=H;have A23:=Aside0.mk A230;clear A230
       by_cases c24 : t109 = true
       ·subst c24
        have H1 : ((config_inside.f a0_7 1 1073741824).bind fun t110 => (if t110 = true then (some 0) else (some 110))) = some r:=by rw [if_pos rfl] at H;exact H
        clear H
        have H:=H1
        clear H1;replace H:=Option.bind_eq_some_iff.mp H;obtain ⟨t110,A250,H⟩:=H;replace H : (if t110 = true then (some 0) else (some 110)) = some r:=H;have A25:=Aside0.mk A250;clear A250
        by_cases c26 : t110 = true
        ·subst c26
         have H1 : (some 0) = some r:=by rw [if_pos rfl] at H;exact H
         clear H
         have H:=H1
         clear H1
         obtain rfl:=Option.some.inj H
         have hcz27_0 : wc.cell? ⟨gb102,0,none⟩ = some (.int .i64 a0_0):=(blk_cell BK102.out 0).trans rfl
         have hcz27_1 : wc.cell? ⟨gb102,1,none⟩ = some (.int .i64 a0_1):=(blk_cell BK102.out 1).trans rfl
         have hcz27_2 : wc.cell? ⟨gb102,2,none⟩ = some (.int .i64 a0_2):=(blk_cell BK102.out 2).trans rfl
         have hcz27_3 : wc.cell? ⟨gb102,3,none⟩ = some (.int .i64 a0_3):=(blk_cell BK102.out 3).trans rfl
         have hcz27_4 : wc.cell? ⟨gb102,4,none⟩ = some (.int .i64 a0_4):=(blk_cell BK102.out 4).trans rfl
         have hcz27_5 : wc.cell? ⟨gb102,5,none⟩ = some (.int .i64 a0_5):=(blk_cell BK102.out 5).trans rfl
         have hcz27_6 : wc.cell? ⟨gb102,6,none⟩ = some (.int .i64 a0_6):=(blk_cell BK102.out 6).trans rfl
         have hcz27_7 : wc.cell? ⟨gb102,7,none⟩ = some (.int .i64 a0_7):=(blk_cell BK102.out 7).trans rfl
         have hfz27_0:=blk_frozen BK102.out 0
         have hfz27_1:=blk_frozen BK102.out 1
         have hfz27_2:=blk_frozen BK102.out 2
         have hfz27_3:=blk_frozen BK102.out 3
         have hfz27_4:=blk_frozen BK102.out 4
         have hfz27_5:=blk_frozen BK102.out 5
         have hfz27_6:=blk_frozen BK102.out 6
         have hfz27_7:=blk_frozen BK102.out 7
         go_wp2_with (first | (go_at_call 62;(with_reducible refine (config_inside.calls a0_6 1 1048576 true _ A23.out).mono ?_);rintro e w' ⟨rfl,⟨nd,rfl⟩⟩) | (go_at_call 62;(with_reducible refine (config_inside.calls a0_7 1 1073741824 true _ A25.out).mono ?_);rintro e w' ⟨rfl,⟨nd,rfl⟩⟩))
         go_ret
         exact ⟨by first | rfl | (simp [errW_none,errW_some] <;> rfl) | (simp [*,errW_none,errW_some] <;> rfl),bA⟩
        ·replace c26:=Bool.eq_false_iff.mpr c26
         subst c26
         have H1 : (some 110) = some r:=by rw [if_neg (show ¬ (false = true) by decide)] at H;exact H
         clear H
         have H:=H1
         clear H1
         obtain rfl:=Option.some.inj H
         have hcz28_0 : wc.cell? ⟨gb102,0,none⟩ = some (.int .i64 a0_0):=(blk_cell BK102.out 0).trans rfl
         have hcz28_1 : wc.cell? ⟨gb102,1,none⟩ = some (.int .i64 a0_1):=(blk_cell BK102.out 1).trans rfl
         have hcz28_2 : wc.cell? ⟨gb102,2,none⟩ = some (.int .i64 a0_2):=(blk_cell BK102.out 2).trans rfl
         have hcz28_3 : wc.cell? ⟨gb102,3,none⟩ = some (.int .i64 a0_3):=(blk_cell BK102.out 3).trans rfl
         have hcz28_4 : wc.cell? ⟨gb102,4,none⟩ = some (.int .i64 a0_4):=(blk_cell BK102.out 4).trans rfl
         have hcz28_5 : wc.cell? ⟨gb102,5,none⟩ = some (.int .i64 a0_5):=(blk_cell BK102.out 5).trans rfl
         have hcz28_6 : wc.cell? ⟨gb102,6,none⟩ = some (.int .i64 a0_6):=(blk_cell BK102.out 6).trans rfl
         have hcz28_7 : wc.cell? ⟨gb102,7,none⟩ = some (.int .i64 a0_7):=(blk_cell BK102.out 7).trans rfl
         have hfz28_0:=blk_frozen BK102.out 0
         have hfz28_1:=blk_frozen BK102.out 1
         have hfz28_2:=blk_frozen BK102.out 2
         have hfz28_3:=blk_frozen BK102.out 3
         have hfz28_4:=blk_frozen BK102.out 4
         have hfz28_5:=blk_frozen BK102.out 5
         have hfz28_6:=blk_frozen BK102.out 6
         have hfz28_7:=blk_frozen BK102.out 7
         go_wp2_with (first | (go_at_call 62;(with_reducible refine (config_inside.calls a0_6 1 1048576 true _ A23.out).mono ?_);rintro e w' ⟨rfl,⟨nd,rfl⟩⟩) | (go_at_call 62;(with_reducible refine (config_inside.calls a0_7 1 1073741824 false _ A25.out).mono ?_);rintro e w' ⟨rfl,⟨nd,rfl⟩⟩))
         go_ret
         exact ⟨by first | rfl | (simp [errW_none,errW_some] <;> rfl) | (simp [*,errW_none,errW_some] <;> rfl),bA⟩
       ·replace c24:=Bool.eq_false_iff.mpr c24
        subst c24
        have H1 : (some 110) = some r:=by rw [if_neg (show ¬ (false = true) by decide)] at H;exact H
        clear H
        have H:=H1
        clear H1
        obtain rfl:=Option.some.inj H
        have hcz29_0 : wc.cell? ⟨gb102,0,none⟩ = some (.int .i64 a0_0):=(blk_cell BK102.out 0).trans rfl
        have hcz29_1 : wc.cell? ⟨gb102,1,none⟩ = some (.int .i64 a0_1):=(blk_cell BK102.out 1).trans rfl
        have hcz29_2 : wc.cell? ⟨gb102,2,none⟩ = some (.int .i64 a0_2):=(blk_cell BK102.out 2).trans rfl
        have hcz29_3 : wc.cell? ⟨gb102,3,none⟩ = some (.int .i64 a0_3):=(blk_cell BK102.out 3).trans rfl
        have hcz29_4 : wc.cell? ⟨gb102,4,none⟩ = some (.int .i64 a0_4):=(blk_cell BK102.out 4).trans rfl
        have hcz29_5 : wc.cell? ⟨gb102,5,none⟩ = some (.int .i64 a0_5):=(blk_cell BK102.out 5).trans rfl
        have hcz29_6 : wc.cell? ⟨gb102,6,none⟩ = some (.int .i64 a0_6):=(blk_cell BK102.out 6).trans rfl
        have hcz29_7 : wc.cell? ⟨gb102,7,none⟩ = some (.int .i64 a0_7):=(blk_cell BK102.out 7).trans rfl
        have hfz29_0:=blk_frozen BK102.out 0
        have hfz29_1:=blk_frozen BK102.out 1
        have hfz29_2:=blk_frozen BK102.out 2
        have hfz29_3:=blk_frozen BK102.out 3
        have hfz29_4:=blk_frozen BK102.out 4
        have hfz29_5:=blk_frozen BK102.out 5
        have hfz29_6:=blk_frozen BK102.out 6
        have hfz29_7:=blk_frozen BK102.out 7
        go_wp2_with (first | (go_at_call 62;(with_reducible refine (config_inside.calls a0_6 1 1048576 false _ A23.out).mono ?_);rintro e w' ⟨rfl,⟨nd,rfl⟩⟩))
        go_ret
        exact ⟨by first | rfl | (simp [errW_none,errW_some] <;> rfl) | (simp [*,errW_none,errW_some] <;> rfl),bA⟩
      ·replace c22:=Bool.eq_false_iff.mpr c22
       subst c22
       have H1 : (some 110) = some r:=by rw [if_neg (show ¬ (false = true) by decide)] at H;exact H
       clear H
       have H:=H1
       clear H1
       obtain rfl:=Option.some.inj H
       go_wp2
       go_ret
       exact ⟨by first | rfl | (simp [errW_none,errW_some] <;> rfl) | (simp [*,errW_none,errW_some] <;> rfl),bA⟩
     ·replace c21:=Bool.eq_false_iff.mpr c21
      subst c21
      have H1 : (some 110) = some r:=by rw [if_neg (show ¬ (false = true) by decide)] at H;exact H
      clear H
      have H:=H1
      clear H1
      obtain rfl:=Option.some.inj H
      go_wp2
      go_ret
      exact ⟨by first | rfl | (simp [errW_none,errW_some] <;> rfl) | (simp [*,errW_none,errW_some] <;> rfl),bA⟩

def config_asked_area.f (a0_0 : Int) (a0_1 : Int) (a0_2 : Int) (a0_3 : Int) (a0_4 : Int) (a0_5 : Int) (a0_6 : Int) (a0_7 : Int) : Option (Int):=some (wrap64 (a0_0 * a0_6))
set_option maxHeartbeats 8000000 in
set_option maxRecDepth 100000 in
theorem config_asked_area.calls (a0_0 : Int) (a0_1 : Int) (a0_2 : Int) (a0_3 : Int) (a0_4 : Int) (a0_5 : Int) (a0_6 : Int) (a0_7 : Int) (r : Int) (w : World) (h : config_asked_area.f a0_0 a0_1 a0_2 a0_3 a0_4 a0_5 a0_6 a0_7 = some r) :
  Calls Tryd.prog 40 #[.agg #[.int .i64 a0_0,.int .i64 a0_1,.int .i64 a0_2,.int .i64 a0_3,.int .i64 a0_4,.int .i64 a0_5,.int .i64 a0_6,.int .i64 a0_7]] w fun e w' => e = .returned (.int .i64 r) ∧ Below w.heap.size w w':=by
 have hu69:=Tryd.underlying69
 have HB:=Am (Below.refl w.heap.size w)
 have H : (some (wrap64 (a0_0 * a0_6))) = some r:=h
 clear h
 obtain rfl:=Option.some.inj H
 go_enter Tryd.func40,Tryd.ntmps40
 go_wp2_with (first | ((with_reducible refine gate_dst (N:=1) rfl ?_);refine bxA 1 #[.int .i64 a0_0,.int .i64 a0_1,.int .i64 a0_2,.int .i64 a0_3,.int .i64 a0_4,.int .i64 a0_5,.int .i64 a0_6,.int .i64 a0_7] 69 ?_;intro gb111 hg w2 hbox hb;have n0_:=Am (below_step bA hb);have n1_:=Am (hbox);have n2_:=Am (gwA hg bA);have n3_:=Am (gwA hg bA);clear HB;have HB:=n0_;have BK111:=n1_;have GW111:=n2_;have GE111:=n3_;clear n0_ n1_ n2_ n3_ hb hbox hg;have hcz3_0 : w2.cell? ⟨gb111,0,none⟩ = some (.int .i64 a0_0):=(blk_cell BK111.out 0).trans rfl;have hcz3_1 : w2.cell? ⟨gb111,1,none⟩ = some (.int .i64 a0_1):=(blk_cell BK111.out 1).trans rfl;have hcz3_2 : w2.cell? ⟨gb111,2,none⟩ = some (.int .i64 a0_2):=(blk_cell BK111.out 2).trans rfl;have hcz3_3 : w2.cell? ⟨gb111,3,none⟩ = some (.int .i64 a0_3):=(blk_cell BK111.out 3).trans rfl;have hcz3_4 : w2.cell? ⟨gb111,4,none⟩ = some (.int .i64 a0_4):=(blk_cell BK111.out 4).trans rfl;have hcz3_5 : w2.cell? ⟨gb111,5,none⟩ = some (.int .i64 a0_5):=(blk_cell BK111.out 5).trans rfl;have hcz3_6 : w2.cell? ⟨gb111,6,none⟩ = some (.int .i64 a0_6):=(blk_cell BK111.out 6).trans rfl;have hcz3_7 : w2.cell? ⟨gb111,7,none⟩ = some (.int .i64 a0_7):=(blk_cell BK111.out 7).trans rfl;have hfz3_0:=blk_frozen BK111.out 0;have hfz3_1:=blk_frozen BK111.out 1;have hfz3_2:=blk_frozen BK111.out 2;have hfz3_3:=blk_frozen BK111.out 3;have hfz3_4:=blk_frozen BK111.out 4;have hfz3_5:=blk_frozen BK111.out 5;have hfz3_6:=blk_frozen BK111.out 6;have hfz3_7:=blk_frozen BK111.out 7))
 go_ret
 exact ⟨by first | rfl | (simp [errW_none,errW_some] <;> rfl) | (simp [*,errW_none,errW_some] <;> rfl),bA⟩

def config_up.f (a0 : Int) (a1 : Int) : Option (Int):=if a1 = 0 then (none) else (some (wrap64 (Int.tdiv (wrap64 ((wrap64 (a0 + a1)) - 1)) a1)))
set_option maxHeartbeats 8000000 in
set_option maxRecDepth 100000 in
theorem config_up.calls (a0 : Int) (a1 : Int) (r : Int) (w : World) (h : config_up.f a0 a1 = some r) :
  Calls Tryd.prog 78 #[.int .i64 a0,.int .i64 a1] w fun e w' => e = .returned (.int .i64 r) ∧ Drawn0 w w':=by
 have H : (if a1 = 0 then (none) else (some (wrap64 (Int.tdiv (wrap64 ((wrap64 (a0 + a1)) - 1)) a1)))) = some r:=h
 clear h
 by_cases c3 : a1 = 0
 ·rw [if_pos c3] at H
  exact absurd H (by simp)
 ·rw [if_neg c3] at H
  have c3b0 : (a1 == 0) = false:=beq_eq_false_iff_ne.mpr c3
  have c3b1 : (a1 != 0) = true:=bne_iff_ne.mpr c3
  obtain rfl:=Option.some.inj H
  go_enter Tryd.func78,Tryd.ntmps78
  go_wp2
  go_ret
  exact ⟨by first | rfl | (simp;done) | (simp [*];done),by repeat (first | exact Drawn0.refl _ | apply Drawn0.step)⟩

def config_asked_keeps.f (a0_0 : Int) (a0_1 : Int) (a0_2 : Int) (a0_3 : Int) (a0_4 : Int) (a0_5 : Int) (a0_6 : Int) (a0_7 : Int) : Option (Int):=if a0_7 = 0 then (none) else ((config_up.f 8589934592 (wrap64 (Int.tdiv (wrap64 (a0_6 * 4294967296)) a0_7))).bind fun t113 => (some (mx 2 t113)))
set_option maxHeartbeats 8000000 in
set_option maxRecDepth 100000 in
theorem config_asked_keeps.calls (a0_0 : Int) (a0_1 : Int) (a0_2 : Int) (a0_3 : Int) (a0_4 : Int) (a0_5 : Int) (a0_6 : Int) (a0_7 : Int) (r : Int) (w : World) (h : config_asked_keeps.f a0_0 a0_1 a0_2 a0_3 a0_4 a0_5 a0_6 a0_7 = some r) :
  Calls Tryd.prog 77 #[.agg #[.int .i64 a0_0,.int .i64 a0_1,.int .i64 a0_2,.int .i64 a0_3,.int .i64 a0_4,.int .i64 a0_5,.int .i64 a0_6,.int .i64 a0_7]] w fun e w' => e = .returned (.int .i64 r) ∧ Below w.heap.size w w':=by
 have hu69:=Tryd.underlying69
 have HB:=Am (Below.refl w.heap.size w)
 have H : (if a0_7 = 0 then (none) else ((config_up.f 8589934592 (wrap64 (Int.tdiv (wrap64 (a0_6 * 4294967296)) a0_7))).bind fun t113 => (some (mx 2 t113)))) = some r:=h
 clear h
 by_cases c2 : a0_7 = 0
 ·rw [if_pos c2] at H
  exact absurd H (by simp)
 ·rw [if_neg c2] at H
  have c2b0 : (a0_7 == 0) = false:=beq_eq_false_iff_ne.mpr c2
  have c2b1 : (a0_7 != 0) = true:=bne_iff_ne.mpr c2
  replace H:=Option.bind_eq_some_iff.mp H;obtain ⟨t113,A30,H⟩:=H;replace H : (some (mx 2 t113)) = some r:=H;have A3:=Aside0.mk A30;clear A30
  obtain ⟨ji4,hji4⟩ : ∃ j_ : Int,(mx 2 t113) = j_:=⟨_,rfl⟩
  replace H : (some ji4) = some r:=by first | (rw [hji4] at H;exact H) | (simp only [hji4] at H ⊢;exact H)
  (try rw [hji4] at A3)
  (try (have hji4l : 2 ≤ ji4:=by (rw [← hji4];unfold mx;(repeat' split) <;> omega)))
  (try (have hji4m : 0 ≤ ji4:=by omega))
  have hji4_ : (if 2 < t113 then t113 else 2) = ji4:=hji4
  obtain rfl:=Option.some.inj H
  go_enter Tryd.func77,Tryd.ntmps77
  go_wp2_with (first | ((with_reducible refine gate_dst (N:=1) rfl ?_);refine bxA 1 #[.int .i64 a0_0,.int .i64 a0_1,.int .i64 a0_2,.int .i64 a0_3,.int .i64 a0_4,.int .i64 a0_5,.int .i64 a0_6,.int .i64 a0_7] 69 ?_;intro gb112 hg w5 hbox hb;have n0_:=Am (below_step bA hb);have n1_:=Am (hbox);have n2_:=Am (gwA hg bA);have n3_:=Am (gwA hg bA);clear HB;have HB:=n0_;have BK112:=n1_;have GW112:=n2_;have GE112:=n3_;clear n0_ n1_ n2_ n3_ hb hbox hg;have hcz6_0 : w5.cell? ⟨gb112,0,none⟩ = some (.int .i64 a0_0):=(blk_cell BK112.out 0).trans rfl;have hcz6_1 : w5.cell? ⟨gb112,1,none⟩ = some (.int .i64 a0_1):=(blk_cell BK112.out 1).trans rfl;have hcz6_2 : w5.cell? ⟨gb112,2,none⟩ = some (.int .i64 a0_2):=(blk_cell BK112.out 2).trans rfl;have hcz6_3 : w5.cell? ⟨gb112,3,none⟩ = some (.int .i64 a0_3):=(blk_cell BK112.out 3).trans rfl;have hcz6_4 : w5.cell? ⟨gb112,4,none⟩ = some (.int .i64 a0_4):=(blk_cell BK112.out 4).trans rfl;have hcz6_5 : w5.cell? ⟨gb112,5,none⟩ = some (.int .i64 a0_5):=(blk_cell BK112.out 5).trans rfl;have hcz6_6 : w5.cell? ⟨gb112,6,none⟩ = some (.int .i64 a0_6):=(blk_cell BK112.out 6).trans rfl;have hcz6_7 : w5.cell? ⟨gb112,7,none⟩ = some (.int .i64 a0_7):=(blk_cell BK112.out 7).trans rfl;have hfz6_0:=blk_frozen BK112.out 0;have hfz6_1:=blk_frozen BK112.out 1;have hfz6_2:=blk_frozen BK112.out 2;have hfz6_3:=blk_frozen BK112.out 3;have hfz6_4:=blk_frozen BK112.out 4;have hfz6_5:=blk_frozen BK112.out 5;have hfz6_6:=blk_frozen BK112.out 6;have hfz6_7:=blk_frozen BK112.out 7) | ((with_reducible refine gate_callee (f:=78) rfl ?_);refine goesL_ (some 13) rfl rfl Tryd.func78 (by kernel_rfl) rfl #[.int .i64 8589934592,.int .i64 (wrap64 (Int.tdiv (wrap64 (a0_6 * 4294967296)) a0_7))] rfl aA ?_;(with_reducible refine (config_up.calls 8589934592 (wrap64 (Int.tdiv (wrap64 (a0_6 * 4294967296)) a0_7)) t113 _ A3.out).mono ?_);rintro e w' ⟨rfl,⟨nd,rfl⟩⟩;refine ⟨_,rfl,?_⟩))
  go_ret
  exact ⟨by first | rfl | (simp [errW_none,errW_some] <;> rfl) | (simp only [← hji4];first | rfl | (simp [errW_none,errW_some] <;> rfl)) | (simp [*,errW_none,errW_some] <;> rfl),bA⟩

def config_asked_most.f (a0_0 : Int) (a0_1 : Int) (a0_2 : Int) (a0_3 : Int) (a0_4 : Int) (a0_5 : Int) (a0_6 : Int) (a0_7 : Int) : Option (Int):=(config_asked_area.f a0_0 a0_1 a0_2 a0_3 a0_4 a0_5 a0_6 a0_7).bind fun t115 => ((config_asked_keeps.f a0_0 a0_1 a0_2 a0_3 a0_4 a0_5 a0_6 a0_7).bind fun t116 => (some (wrap64 (t115 * t116))))
set_option maxHeartbeats 8000000 in
set_option maxRecDepth 100000 in
theorem config_asked_most.calls (a0_0 : Int) (a0_1 : Int) (a0_2 : Int) (a0_3 : Int) (a0_4 : Int) (a0_5 : Int) (a0_6 : Int) (a0_7 : Int) (r : Int) (w : World) (h : config_asked_most.f a0_0 a0_1 a0_2 a0_3 a0_4 a0_5 a0_6 a0_7 = some r) :
  Calls Tryd.prog 63 #[.agg #[.int .i64 a0_0,.int .i64 a0_1,.int .i64 a0_2,.int .i64 a0_3,.int .i64 a0_4,.int .i64 a0_5,.int .i64 a0_6,.int .i64 a0_7]] w fun e w' => e = .returned (.int .i64 r) ∧ Below w.heap.size w w':=by
 have hu69:=Tryd.underlying69
 have HB:=Am (Below.refl w.heap.size w)
 have H : ((config_asked_area.f a0_0 a0_1 a0_2 a0_3 a0_4 a0_5 a0_6 a0_7).bind fun t115 => ((config_asked_keeps.f a0_0 a0_1 a0_2 a0_3 a0_4 a0_5 a0_6 a0_7).bind fun t116 => (some (wrap64 (t115 * t116))))) = some r:=h
 clear h;replace H:=Option.bind_eq_some_iff.mp H;obtain ⟨t115,A20,H⟩:=H;replace H : ((config_asked_keeps.f a0_0 a0_1 a0_2 a0_3 a0_4 a0_5 a0_6 a0_7).bind fun t116 => (some (wrap64 (t115 * t116)))) = some r:=H;have A2:=Aside0.mk A20;clear A20;replace H:=Option.bind_eq_some_iff.mp H;obtain ⟨t116,A30,H⟩:=H;replace H : (some (wrap64 (t115 * t116))) = some r:=H;have A3:=Aside0.mk A30;clear A30
 obtain rfl:=Option.some.inj H
 go_enter Tryd.func63,Tryd.ntmps63
 try go_wp2_with (first | ((with_reducible refine gate_dst (N:=1) rfl ?_);refine bxA 1 #[.int .i64 a0_0,.int .i64 a0_1,.int .i64 a0_2,.int .i64 a0_3,.int .i64 a0_4,.int .i64 a0_5,.int .i64 a0_6,.int .i64 a0_7] 69 ?_;intro gb114 hg w4 hbox hb;have n0_:=Am (below_step bA hb);have n1_:=Am (hbox);have n2_:=Am (gwA hg bA);have n3_:=Am (gwA hg bA);clear HB;have HB:=n0_;have BK114:=n1_;have GW114:=n2_;have GE114:=n3_;clear n0_ n1_ n2_ n3_ hb hbox hg))
 have n0_:=Am (blk_drew BK114.out);have n1_:=Am (below_drew1 HB.out);clear BK114 HB;have BK114:=n0_;have HB:=n1_;clear n0_ n1_
 refine start_ (n:=6) (S:=fun w' => w'.cell? ⟨gb114,0,none⟩ = some (.int .i64 a0_0) ∧ w'.cell? ⟨gb114,1,none⟩ = some (.int .i64 a0_1) ∧ w'.cell? ⟨gb114,2,none⟩ = some (.int .i64 a0_2) ∧ w'.cell? ⟨gb114,3,none⟩ = some (.int .i64 a0_3) ∧ w'.cell? ⟨gb114,4,none⟩ = some (.int .i64 a0_4) ∧ w'.cell? ⟨gb114,5,none⟩ = some (.int .i64 a0_5) ∧ w'.cell? ⟨gb114,6,none⟩ = some (.int .i64 a0_6) ∧ w'.cell? ⟨gb114,7,none⟩ = some (.int .i64 a0_7)) (ds:=[]) #[nn,nn,nn,nn,nn,nn] (by kernel_rfl) rfl rfl ⟨(blk_cell BK114.out 0).trans rfl,(blk_cell BK114.out 1).trans rfl,(blk_cell BK114.out 2).trans rfl,(blk_cell BK114.out 3).trans rfl,(blk_cell BK114.out 4).trans rfl,(blk_cell BK114.out 5).trans rfl,(blk_cell BK114.out 6).trans rfl,(blk_cell BK114.out 7).trans rfl⟩ (fun hHeld => ?_)
 generalize w4.drew = w5 at BK114 HB hHeld ⊢
 refine take_ (i:=0) (N:=some 3) (v:=?_) (a':=?_) #[yy,nn,nn,nn,nn,nn] rfl rfl (by kernel_rfl) (fun _ _ _ h => h) (Or.inl ⟨by rfl,?_⟩) hHeld ?_ ?_
 rotate_left
 ·rintro w' ⟨s0,s1,s2,s3,s4,s5,s6,s7⟩
  go_simp;with_reducible rfl
 rotate_left
 ·simp only [NR]
  rfl
 refine take_ (i:=2) (N:=some 5) (v:=?_) (a':=?_) #[yy,nn,yy,nn,nn,nn] rfl rfl (by kernel_rfl) (fun _ _ _ h => h) (Or.inl ⟨by rfl,?_⟩) hHeld ?_ ?_
 rotate_left
 ·rintro w' ⟨s0,s1,s2,s3,s4,s5,s6,s7⟩
  go_simp;with_reducible rfl
 rotate_left
 ·simp only [NR]
  rfl
 refine one_ (i:=1) (N:=some 4) #[yy,yy,yy,nn,nn,nn] rfl rfl (by kernel_rfl) (by decide) (fun K hK => ?_)
 refine goes_ Tryd.func40 (by kernel_rfl) rfl #[.agg #[.int .i64 a0_0,.int .i64 a0_1,.int .i64 a0_2,.int .i64 a0_3,.int .i64 a0_4,.int .i64 a0_5,.int .i64 a0_6,.int .i64 a0_7]] (by rfl) rfl rfl aA ?_
 with_reducible refine (config_asked_area.calls a0_0 a0_1 a0_2 a0_3 a0_4 a0_5 a0_6 a0_7 t115 _ A2.out).mono ?_
 rintro e w6 ⟨rfl,hb⟩
 refine ⟨_,rfl,?_⟩;have n0_:=Am (blk_below (g:=gb114) kA hb);have n1_:=Am (below_step bA hb);clear BK114 HB;have BK114:=n0_;have HB:=n1_;clear n0_ n1_;(try clear hb)
 refine hK.out _ _ ⟨(blk_cell BK114.out 0).trans rfl,(blk_cell BK114.out 1).trans rfl,(blk_cell BK114.out 2).trans rfl,(blk_cell BK114.out 3).trans rfl,(blk_cell BK114.out 4).trans rfl,(blk_cell BK114.out 5).trans rfl,(blk_cell BK114.out 6).trans rfl,(blk_cell BK114.out 7).trans rfl⟩ (fun hHeld => ?_)
 clear hK K
 refine norm_ (a':=?_) ?_ ?_
 rotate_left
 ·show Act.put _ (some 4) _ = _
  simp only [NR]
  rfl
 refine one_ (i:=3) (N:=some 6) #[yy,yy,yy,yy,nn,nn] rfl rfl (by kernel_rfl) (by decide) (fun K hK => ?_)
 refine goes_ Tryd.func77 (by kernel_rfl) rfl #[.agg #[.int .i64 a0_0,.int .i64 a0_1,.int .i64 a0_2,.int .i64 a0_3,.int .i64 a0_4,.int .i64 a0_5,.int .i64 a0_6,.int .i64 a0_7]] (by rfl) rfl rfl aA ?_
 with_reducible refine (config_asked_keeps.calls a0_0 a0_1 a0_2 a0_3 a0_4 a0_5 a0_6 a0_7 t116 _ A3.out).mono ?_
 rintro e w7 ⟨rfl,hb⟩
 refine ⟨_,rfl,?_⟩;have n0_:=Am (blk_below (g:=gb114) kA hb);have n1_:=Am (below_step bA hb);clear BK114 HB;have BK114:=n0_;have HB:=n1_;clear n0_ n1_;(try clear hb)
 refine hK.out _ _ ⟨(blk_cell BK114.out 0).trans rfl,(blk_cell BK114.out 1).trans rfl,(blk_cell BK114.out 2).trans rfl,(blk_cell BK114.out 3).trans rfl,(blk_cell BK114.out 4).trans rfl,(blk_cell BK114.out 5).trans rfl,(blk_cell BK114.out 6).trans rfl,(blk_cell BK114.out 7).trans rfl⟩ (fun hHeld => ?_)
 clear hK K
 refine norm_ (a':=?_) ?_ ?_
 rotate_left
 ·show Act.put _ (some 6) _ = _
  simp only [NR]
  rfl
 refine pure_ (i:=4) (N:=some 7) (v:=?_) (a':=?_) #[yy,yy,yy,yy,yy,nn] rfl rfl (by kernel_rfl) (fun _ _ _ h => h) (Or.inl ⟨by rfl,?_⟩) ?_ ?_
 rotate_left
 ·intro w'
  go_simp;with_reducible rfl
 rotate_left
 ·simp only [NR]
  rfl
 refine pure_ (i:=5) (N:=some 2) (v:=?_) (a':=?_) #[yy,yy,yy,yy,yy,yy] rfl rfl (by kernel_rfl) (fun _ _ _ h => h) (Or.inl ⟨by rfl,?_⟩) ?_ ?_
 rotate_left
 ·intro w'
  go_simp;with_reducible rfl
 rotate_left
 ·simp only [NR]
  rfl
 refine done_ (by kernel_rfl) ?_
 try go_wp2
 go_ret
 exact ⟨by first | rfl | (simp [errW_none,errW_some] <;> rfl) | (simp [*,errW_none,errW_some] <;> rfl),bA⟩

end Go.Proofs.YtbhijfbjdbjpbaaDoor.GSH
namespace Go.Proofs.YtbhijfbjdbjpbaaDoor.GSH
open Go.RowKit Go.Proofs.YtbhijfbjdbjpbaaDoorW.PrintWords Go.Proofs.YtbhijfbjdbjpbaaDoorW.PrintLast Go.Proofs.YtbhijfbjdbjpbaaDoorW.PrintMore
attribute [local go_sem] max2_int min2_int max_two min_two max_three min_three max_four min_four   -- for this text's walks alone
set_option linter.unusedVariables false
set_option linter.unusedSimpArgs false
def config_asked_usage.f (a0_0 : Int) (a0_1 : Int) (a0_2 : Int) (a0_3 : Int) (a0_4 : Int) (a0_5 : Int) (a0_6 : Int) (a0_7 : Int) : Option (Int):=(config_asked_most.f a0_0 a0_1 a0_2 a0_3 a0_4 a0_5 a0_6 a0_7).bind fun t118 => (if t118 > 2147483648 then (some 111) else (some 0))
set_option maxHeartbeats 8000000 in
set_option maxRecDepth 100000 in
theorem config_asked_usage.calls (a0_0 : Int) (a0_1 : Int) (a0_2 : Int) (a0_3 : Int) (a0_4 : Int) (a0_5 : Int) (a0_6 : Int) (a0_7 : Int) (r : Int) (w : World) (h : config_asked_usage.f a0_0 a0_1 a0_2 a0_3 a0_4 a0_5 a0_6 a0_7 = some r) :
  Calls Tryd.prog 35 #[.agg #[.int .i64 a0_0,.int .i64 a0_1,.int .i64 a0_2,.int .i64 a0_3,.int .i64 a0_4,.int .i64 a0_5,.int .i64 a0_6,.int .i64 a0_7]] w fun e w' => e = .returned (.int .i64 r) ∧ Below w.heap.size w w':=by
 have hu69:=Tryd.underlying69
 have HB:=Am (Below.refl w.heap.size w)
 have H : ((config_asked_most.f a0_0 a0_1 a0_2 a0_3 a0_4 a0_5 a0_6 a0_7).bind fun t118 => (if t118 > 2147483648 then (some 111) else (some 0))) = some r:=h
 clear h;replace H:=Option.bind_eq_some_iff.mp H;obtain ⟨t118,A20,H⟩:=H;replace H : (if t118 > 2147483648 then (some 111) else (some 0)) = some r:=H;have A2:=Aside0.mk A20;clear A20
 by_cases c3 : t118 > 2147483648
 ·rw [if_pos c3] at H
  have c3b0 : decide (2147483648 < t118) = true:=decide_eq_true c3
  clear c3
  obtain rfl:=Option.some.inj H
  go_enter Tryd.func35,Tryd.ntmps35
  go_wp2_with (first | ((with_reducible refine gate_dst (N:=1) rfl ?_);refine bxA 1 #[.int .i64 a0_0,.int .i64 a0_1,.int .i64 a0_2,.int .i64 a0_3,.int .i64 a0_4,.int .i64 a0_5,.int .i64 a0_6,.int .i64 a0_7] 69 ?_;intro gb117 hg w4 hbox hb;have n0_:=Am (below_step bA hb);have n1_:=Am (hbox);have n2_:=Am (gwA hg bA);have n3_:=Am (gwA hg bA);clear HB;have HB:=n0_;have BK117:=n1_;have GW117:=n2_;have GE117:=n3_;clear n0_ n1_ n2_ n3_ hb hbox hg;have hcz5_0 : w4.cell? ⟨gb117,0,none⟩ = some (.int .i64 a0_0):=(blk_cell BK117.out 0).trans rfl;have hcz5_1 : w4.cell? ⟨gb117,1,none⟩ = some (.int .i64 a0_1):=(blk_cell BK117.out 1).trans rfl;have hcz5_2 : w4.cell? ⟨gb117,2,none⟩ = some (.int .i64 a0_2):=(blk_cell BK117.out 2).trans rfl;have hcz5_3 : w4.cell? ⟨gb117,3,none⟩ = some (.int .i64 a0_3):=(blk_cell BK117.out 3).trans rfl;have hcz5_4 : w4.cell? ⟨gb117,4,none⟩ = some (.int .i64 a0_4):=(blk_cell BK117.out 4).trans rfl;have hcz5_5 : w4.cell? ⟨gb117,5,none⟩ = some (.int .i64 a0_5):=(blk_cell BK117.out 5).trans rfl;have hcz5_6 : w4.cell? ⟨gb117,6,none⟩ = some (.int .i64 a0_6):=(blk_cell BK117.out 6).trans rfl;have hcz5_7 : w4.cell? ⟨gb117,7,none⟩ = some (.int .i64 a0_7):=(blk_cell BK117.out 7).trans rfl;have hfz5_0:=blk_frozen BK117.out 0;have hfz5_1:=blk_frozen BK117.out 1;have hfz5_2:=blk_frozen BK117.out 2;have hfz5_3:=blk_frozen BK117.out 3;have hfz5_4:=blk_frozen BK117.out 4;have hfz5_5:=blk_frozen BK117.out 5;have hfz5_6:=blk_frozen BK117.out 6;have hfz5_7:=blk_frozen BK117.out 7) | ((with_reducible refine gate_callee (f:=63) rfl ?_);refine goesL_ (some 4) rfl rfl Tryd.func63 (by kernel_rfl) rfl #[.agg #[.int .i64 a0_0,.int .i64 a0_1,.int .i64 a0_2,.int .i64 a0_3,.int .i64 a0_4,.int .i64 a0_5,.int .i64 a0_6,.int .i64 a0_7]] rfl aA ?_;(with_reducible refine (config_asked_most.calls a0_0 a0_1 a0_2 a0_3 a0_4 a0_5 a0_6 a0_7 t118 _ A2.out).mono ?_);rintro e w6 ⟨rfl,hb⟩;refine ⟨_,rfl,?_⟩;have n0_:=Am (blk_below (g:=gb117) kA hb);have n1_:=Am (below_step bA hb);clear BK117 HB;have BK117:=n0_;have HB:=n1_;clear n0_ n1_;(try clear hb)))
  go_ret
  exact ⟨by first | rfl | (simp [errW_none,errW_some] <;> rfl) | (simp [*,errW_none,errW_some] <;> rfl),bA⟩
 ·rw [if_neg c3] at H
  have c3b0 : decide (2147483648 < t118) = false:=decide_eq_false c3
  clear c3
  obtain rfl:=Option.some.inj H
  go_enter Tryd.func35,Tryd.ntmps35
  go_wp2_with (first | ((with_reducible refine gate_dst (N:=1) rfl ?_);refine bxA 1 #[.int .i64 a0_0,.int .i64 a0_1,.int .i64 a0_2,.int .i64 a0_3,.int .i64 a0_4,.int .i64 a0_5,.int .i64 a0_6,.int .i64 a0_7] 69 ?_;intro gb117 hg w7 hbox hb;have n0_:=Am (below_step bA hb);have n1_:=Am (hbox);have n2_:=Am (gwA hg bA);have n3_:=Am (gwA hg bA);clear HB;have HB:=n0_;have BK117:=n1_;have GW117:=n2_;have GE117:=n3_;clear n0_ n1_ n2_ n3_ hb hbox hg;have hcz8_0 : w7.cell? ⟨gb117,0,none⟩ = some (.int .i64 a0_0):=(blk_cell BK117.out 0).trans rfl;have hcz8_1 : w7.cell? ⟨gb117,1,none⟩ = some (.int .i64 a0_1):=(blk_cell BK117.out 1).trans rfl;have hcz8_2 : w7.cell? ⟨gb117,2,none⟩ = some (.int .i64 a0_2):=(blk_cell BK117.out 2).trans rfl;have hcz8_3 : w7.cell? ⟨gb117,3,none⟩ = some (.int .i64 a0_3):=(blk_cell BK117.out 3).trans rfl;have hcz8_4 : w7.cell? ⟨gb117,4,none⟩ = some (.int .i64 a0_4):=(blk_cell BK117.out 4).trans rfl;have hcz8_5 : w7.cell? ⟨gb117,5,none⟩ = some (.int .i64 a0_5):=(blk_cell BK117.out 5).trans rfl;have hcz8_6 : w7.cell? ⟨gb117,6,none⟩ = some (.int .i64 a0_6):=(blk_cell BK117.out 6).trans rfl;have hcz8_7 : w7.cell? ⟨gb117,7,none⟩ = some (.int .i64 a0_7):=(blk_cell BK117.out 7).trans rfl;have hfz8_0:=blk_frozen BK117.out 0;have hfz8_1:=blk_frozen BK117.out 1;have hfz8_2:=blk_frozen BK117.out 2;have hfz8_3:=blk_frozen BK117.out 3;have hfz8_4:=blk_frozen BK117.out 4;have hfz8_5:=blk_frozen BK117.out 5;have hfz8_6:=blk_frozen BK117.out 6;have hfz8_7:=blk_frozen BK117.out 7) | ((with_reducible refine gate_callee (f:=63) rfl ?_);refine goesL_ (some 4) rfl rfl Tryd.func63 (by kernel_rfl) rfl #[.agg #[.int .i64 a0_0,.int .i64 a0_1,.int .i64 a0_2,.int .i64 a0_3,.int .i64 a0_4,.int .i64 a0_5,.int .i64 a0_6,.int .i64 a0_7]] rfl aA ?_;(with_reducible refine (config_asked_most.calls a0_0 a0_1 a0_2 a0_3 a0_4 a0_5 a0_6 a0_7 t118 _ A2.out).mono ?_);rintro e w9 ⟨rfl,hb⟩;refine ⟨_,rfl,?_⟩;have n0_:=Am (blk_below (g:=gb117) kA hb);have n1_:=Am (below_step bA hb);clear BK117 HB;have BK117:=n0_;have HB:=n1_;clear n0_ n1_;(try clear hb)))
  go_ret
  exact ⟨by first | rfl | (simp [errW_none,errW_some] <;> rfl) | (simp [*,errW_none,errW_some] <;> rfl),bA⟩

def config_asked_fairSize.f (a0_0 : Int) (a0_1 : Int) (a0_2 : Int) (a0_3 : Int) (a0_4 : Int) (a0_5 : Int) (a0_6 : Int) (a0_7 : Int) : Option (Int):=some (wrap64 (a0_4 + (wrap64 (a0_5 * a0_0))))
set_option maxHeartbeats 8000000 in
set_option maxRecDepth 100000 in
theorem config_asked_fairSize.calls (a0_0 : Int) (a0_1 : Int) (a0_2 : Int) (a0_3 : Int) (a0_4 : Int) (a0_5 : Int) (a0_6 : Int) (a0_7 : Int) (r : Int) (w : World) (h : config_asked_fairSize.f a0_0 a0_1 a0_2 a0_3 a0_4 a0_5 a0_6 a0_7 = some r) :
  Calls Tryd.prog 64 #[.agg #[.int .i64 a0_0,.int .i64 a0_1,.int .i64 a0_2,.int .i64 a0_3,.int .i64 a0_4,.int .i64 a0_5,.int .i64 a0_6,.int .i64 a0_7]] w fun e w' => e = .returned (.int .i64 r) ∧ Below w.heap.size w w':=by
 have hu69:=Tryd.underlying69
 have HB:=Am (Below.refl w.heap.size w)
 have H : (some (wrap64 (a0_4 + (wrap64 (a0_5 * a0_0))))) = some r:=h
 clear h
 obtain rfl:=Option.some.inj H
 go_enter Tryd.func64,Tryd.ntmps64
 go_wp2_with (first | ((with_reducible refine gate_dst (N:=1) rfl ?_);refine bxA 1 #[.int .i64 a0_0,.int .i64 a0_1,.int .i64 a0_2,.int .i64 a0_3,.int .i64 a0_4,.int .i64 a0_5,.int .i64 a0_6,.int .i64 a0_7] 69 ?_;intro gb119 hg w2 hbox hb;have n0_:=Am (below_step bA hb);have n1_:=Am (hbox);have n2_:=Am (gwA hg bA);have n3_:=Am (gwA hg bA);clear HB;have HB:=n0_;have BK119:=n1_;have GW119:=n2_;have GE119:=n3_;clear n0_ n1_ n2_ n3_ hb hbox hg;have hcz3_0 : w2.cell? ⟨gb119,0,none⟩ = some (.int .i64 a0_0):=(blk_cell BK119.out 0).trans rfl;have hcz3_1 : w2.cell? ⟨gb119,1,none⟩ = some (.int .i64 a0_1):=(blk_cell BK119.out 1).trans rfl;have hcz3_2 : w2.cell? ⟨gb119,2,none⟩ = some (.int .i64 a0_2):=(blk_cell BK119.out 2).trans rfl;have hcz3_3 : w2.cell? ⟨gb119,3,none⟩ = some (.int .i64 a0_3):=(blk_cell BK119.out 3).trans rfl;have hcz3_4 : w2.cell? ⟨gb119,4,none⟩ = some (.int .i64 a0_4):=(blk_cell BK119.out 4).trans rfl;have hcz3_5 : w2.cell? ⟨gb119,5,none⟩ = some (.int .i64 a0_5):=(blk_cell BK119.out 5).trans rfl;have hcz3_6 : w2.cell? ⟨gb119,6,none⟩ = some (.int .i64 a0_6):=(blk_cell BK119.out 6).trans rfl;have hcz3_7 : w2.cell? ⟨gb119,7,none⟩ = some (.int .i64 a0_7):=(blk_cell BK119.out 7).trans rfl;have hfz3_0:=blk_frozen BK119.out 0;have hfz3_1:=blk_frozen BK119.out 1;have hfz3_2:=blk_frozen BK119.out 2;have hfz3_3:=blk_frozen BK119.out 3;have hfz3_4:=blk_frozen BK119.out 4;have hfz3_5:=blk_frozen BK119.out 5;have hfz3_6:=blk_frozen BK119.out 6;have hfz3_7:=blk_frozen BK119.out 7))
 go_ret
 exact ⟨by first | rfl | (simp [errW_none,errW_some] <;> rfl) | (simp [*,errW_none,errW_some] <;> rfl),bA⟩

def config_asked_scale.f (a0_0 : Int) (a0_1 : Int) (a0_2 : Int) (a0_3 : Int) (a0_4 : Int) (a0_5 : Int) (a0_6 : Int) (a0_7 : Int) : Option (Int):=(config_asked_fairSize.f a0_0 a0_1 a0_2 a0_3 a0_4 a0_5 a0_6 a0_7).bind fun t121 => (if (wrap64 ((wrap64 (a0_3 * 1099511627776)) + t121)) ≥ 4611686018427387904 then (some 112) else (some 0))
def config_asked_scale.T1 : Bool × List (List Nat × List Nat):=(true,[([],[]),([0],[0]),([1],[1]),([2],[2]),([],[]),([4],[4]),([3,5],[3,5]),([6],[6])])
def config_asked_scale.B1 : List Nat:=[0,1,3,7,0,16,63,127]
theorem config_asked_scale.tab1 : rtab .any (opsOf Tryd.f36 1) = config_asked_scale.T1:=by kernel_rfl
theorem config_asked_scale.bits1 : waitsOk config_asked_scale.T1.2 config_asked_scale.B1 = true:=by kernel_rfl
set_option maxHeartbeats 8000000 in
set_option maxRecDepth 100000 in
theorem config_asked_scale.calls (a0_0 : Int) (a0_1 : Int) (a0_2 : Int) (a0_3 : Int) (a0_4 : Int) (a0_5 : Int) (a0_6 : Int) (a0_7 : Int) (r : Int) (w : World) (h : config_asked_scale.f a0_0 a0_1 a0_2 a0_3 a0_4 a0_5 a0_6 a0_7 = some r) :
  Calls Tryd.prog 36 #[.agg #[.int .i64 a0_0,.int .i64 a0_1,.int .i64 a0_2,.int .i64 a0_3,.int .i64 a0_4,.int .i64 a0_5,.int .i64 a0_6,.int .i64 a0_7]] w fun e w' => e = .returned (.int .i64 r) ∧ Below w.heap.size w w':=by
 have hu69:=Tryd.underlying69
 have HB:=Am (Below.refl w.heap.size w)
 have H : ((config_asked_fairSize.f a0_0 a0_1 a0_2 a0_3 a0_4 a0_5 a0_6 a0_7).bind fun t121 => (if (wrap64 ((wrap64 (a0_3 * 1099511627776)) + t121)) ≥ 4611686018427387904 then (some 112) else (some 0))) = some r:=h
 clear h;replace H:=Option.bind_eq_some_iff.mp H;obtain ⟨t121,A20,H⟩:=H;replace H : (if (wrap64 ((wrap64 (a0_3 * 1099511627776)) + t121)) ≥ 4611686018427387904 then (some 112) else (some 0)) = some r:=H;have A2:=Aside0.mk A20;clear A20
 by_cases c3 : (wrap64 ((wrap64 (a0_3 * 1099511627776)) + t121)) ≥ 4611686018427387904
 ·rw [if_pos c3] at H
  have c3b0 : decide (4611686018427387904 ≤ (wrap64 ((wrap64 (a0_3 * 1099511627776)) + t121))) = true:=decide_eq_true c3
  clear c3
  obtain rfl:=Option.some.inj H
  go_enter Tryd.func36,Tryd.ntmps36
  try go_wp2_with (first | ((with_reducible refine gate_dst (N:=1) rfl ?_);refine bxA 1 #[.int .i64 a0_0,.int .i64 a0_1,.int .i64 a0_2,.int .i64 a0_3,.int .i64 a0_4,.int .i64 a0_5,.int .i64 a0_6,.int .i64 a0_7] 69 ?_;intro gb120 hg w4 hbox hb;have n0_:=Am (below_step bA hb);have n1_:=Am (hbox);have n2_:=Am (gwA hg bA);have n3_:=Am (gwA hg bA);clear HB;have HB:=n0_;have BK120:=n1_;have GW120:=n2_;have GE120:=n3_;clear n0_ n1_ n2_ n3_ hb hbox hg))
  have n0_:=Am (blk_drew BK120.out);have n1_:=Am (below_drew1 HB.out);clear BK120 HB;have BK120:=n0_;have HB:=n1_;clear n0_ n1_
  refine start_ (n:=8) (S:=fun w' => w'.cell? ⟨gb120,0,none⟩ = some (.int .i64 a0_0) ∧ w'.cell? ⟨gb120,1,none⟩ = some (.int .i64 a0_1) ∧ w'.cell? ⟨gb120,2,none⟩ = some (.int .i64 a0_2) ∧ w'.cell? ⟨gb120,3,none⟩ = some (.int .i64 a0_3) ∧ w'.cell? ⟨gb120,4,none⟩ = some (.int .i64 a0_4) ∧ w'.cell? ⟨gb120,5,none⟩ = some (.int .i64 a0_5) ∧ w'.cell? ⟨gb120,6,none⟩ = some (.int .i64 a0_6) ∧ w'.cell? ⟨gb120,7,none⟩ = some (.int .i64 a0_7)) (ds:=[]) #[nn,nn,nn,nn,nn,nn,nn,nn] (by kernel_rfl) rfl rfl ⟨(blk_cell BK120.out 0).trans rfl,(blk_cell BK120.out 1).trans rfl,(blk_cell BK120.out 2).trans rfl,(blk_cell BK120.out 3).trans rfl,(blk_cell BK120.out 4).trans rfl,(blk_cell BK120.out 5).trans rfl,(blk_cell BK120.out 6).trans rfl,(blk_cell BK120.out 7).trans rfl⟩ (fun hHeld => ?_);refine with_tabW config_asked_scale.tab1 config_asked_scale.bits1 (fun HT_ HW_ => ?_)
  generalize w4.drew = w5 at BK120 HB hHeld ⊢
  refine pure_ (i:=0) (N:=some 3) (v:=?_) (a':=?_) #[yy,nn,nn,nn,nn,nn,nn,nn] rfl rfl (any_of HT_.out (by kernel_rfl)) (fun _ _ _ h => h) (Or.inl ⟨by rfl,?_⟩) ?_ ?_
  rotate_left
  ·intro w'
   go_simp;with_reducible rfl
  rotate_left
  ·simp only [NR]
   rfl
  refine pure_ (i:=1) (N:=some 4) (v:=?_) (a':=?_) #[yy,yy,nn,nn,nn,nn,nn,nn] rfl rfl (any_of HT_.out (by kernel_rfl)) (fun _ _ _ h => h) (Or.inl ⟨by rfl,?_⟩) ?_ ?_
  rotate_left
  ·intro w'
   go_simp;with_reducible rfl
  rotate_left
  ·simp only [NR]
   rfl
  refine take_ (i:=2) (N:=some 5) (v:=?_) (a':=?_) #[yy,yy,yy,nn,nn,nn,nn,nn] rfl rfl (take_ofW HT_.out HW_.out (by kernel_rfl)) (fun _ _ _ h => h) (Or.inl ⟨by rfl,?_⟩) hHeld ?_ ?_
  rotate_left
  ·rintro w' ⟨s0,s1,s2,s3,s4,s5,s6,s7⟩
   go_simp;with_reducible rfl
  rotate_left
  ·simp only [NR]
   rfl
  refine pure_ (i:=3) (N:=some 6) (v:=?_) (a':=?_) #[yy,yy,yy,yy,nn,nn,nn,nn] rfl rfl (any_of HT_.out (by kernel_rfl)) (fun _ _ _ h => h) (Or.inl ⟨by rfl,?_⟩) ?_ ?_
  rotate_left
  ·intro w'
   go_simp;with_reducible rfl
  rotate_left
  ·simp only [NR]
   rfl
  refine take_ (i:=4) (N:=some 7) (v:=?_) (a':=?_) #[yy,yy,yy,yy,yy,nn,nn,nn] rfl rfl (take_ofW HT_.out HW_.out (by kernel_rfl)) (fun _ _ _ h => h) (Or.inl ⟨by rfl,?_⟩) hHeld ?_ ?_
  rotate_left
  ·rintro w' ⟨s0,s1,s2,s3,s4,s5,s6,s7⟩
   go_simp;with_reducible rfl
  rotate_left
  ·simp only [NR]
   rfl
  refine one_ (i:=5) (N:=some 8) #[yy,yy,yy,yy,yy,yy,nn,nn] rfl rfl (one_of HT_.out (by kernel_rfl)) (by decide) (fun K hK => ?_)
  refine goes_ Tryd.func64 (by kernel_rfl) rfl #[.agg #[.int .i64 a0_0,.int .i64 a0_1,.int .i64 a0_2,.int .i64 a0_3,.int .i64 a0_4,.int .i64 a0_5,.int .i64 a0_6,.int .i64 a0_7]] (by rfl) rfl rfl aA ?_
  with_reducible refine (config_asked_fairSize.calls a0_0 a0_1 a0_2 a0_3 a0_4 a0_5 a0_6 a0_7 t121 _ A2.out).mono ?_
  rintro e w6 ⟨rfl,hb⟩
  refine ⟨_,rfl,?_⟩;have n0_:=Am (blk_below (g:=gb120) kA hb);have n1_:=Am (below_step bA hb);clear BK120 HB;have BK120:=n0_;have HB:=n1_;clear n0_ n1_;(try clear hb)
  refine hK.out _ _ ⟨(blk_cell BK120.out 0).trans rfl,(blk_cell BK120.out 1).trans rfl,(blk_cell BK120.out 2).trans rfl,(blk_cell BK120.out 3).trans rfl,(blk_cell BK120.out 4).trans rfl,(blk_cell BK120.out 5).trans rfl,(blk_cell BK120.out 6).trans rfl,(blk_cell BK120.out 7).trans rfl⟩ (fun hHeld => ?_)
  clear hK K
  refine norm_ (a':=?_) ?_ ?_
  rotate_left
  ·show Act.put _ (some 8) _ = _
   simp only [NR]
   rfl
  refine pure_ (i:=6) (N:=some 9) (v:=?_) (a':=?_) #[yy,yy,yy,yy,yy,yy,yy,nn] rfl rfl (any_of HT_.out (by kernel_rfl)) (fun _ _ _ h => h) (Or.inl ⟨by rfl,?_⟩) ?_ ?_
  rotate_left
  ·intro w'
   go_simp;with_reducible rfl
  rotate_left
  ·simp only [NR]
   rfl
  refine pure_ (i:=7) (N:=some 10) (v:=?_) (a':=?_) #[yy,yy,yy,yy,yy,yy,yy,yy] rfl rfl (any_of HT_.out (by kernel_rfl)) (fun _ _ _ h => h) (Or.inl ⟨by rfl,?_⟩) ?_ ?_
  rotate_left
  ·intro w'
   go_simp;with_reducible rfl
  rotate_left
  ·simp only [NR]
   rfl
  refine done_ (done_of HT_.out (by kernel_rfl)) ?_
  try go_wp2
  go_ret
  exact ⟨by first | rfl | (simp [errW_none,errW_some] <;> rfl) | (simp [*,errW_none,errW_some] <;> rfl),bA⟩
 ·rw [if_neg c3] at H
  have c3b0 : decide (4611686018427387904 ≤ (wrap64 ((wrap64 (a0_3 * 1099511627776)) + t121))) = false:=decide_eq_false c3
  clear c3
  obtain rfl:=Option.some.inj H
  go_enter Tryd.func36,Tryd.ntmps36
  try go_wp2_with (first | ((with_reducible refine gate_dst (N:=1) rfl ?_);refine bxA 1 #[.int .i64 a0_0,.int .i64 a0_1,.int .i64 a0_2,.int .i64 a0_3,.int .i64 a0_4,.int .i64 a0_5,.int .i64 a0_6,.int .i64 a0_7] 69 ?_;intro gb120 hg w7 hbox hb;have n0_:=Am (below_step bA hb);have n1_:=Am (hbox);have n2_:=Am (gwA hg bA);have n3_:=Am (gwA hg bA);clear HB;have HB:=n0_;have BK120:=n1_;have GW120:=n2_;have GE120:=n3_;clear n0_ n1_ n2_ n3_ hb hbox hg))
  have n0_:=Am (blk_drew BK120.out);have n1_:=Am (below_drew1 HB.out);clear BK120 HB;have BK120:=n0_;have HB:=n1_;clear n0_ n1_
  refine start_ (n:=8) (S:=fun w' => w'.cell? ⟨gb120,0,none⟩ = some (.int .i64 a0_0) ∧ w'.cell? ⟨gb120,1,none⟩ = some (.int .i64 a0_1) ∧ w'.cell? ⟨gb120,2,none⟩ = some (.int .i64 a0_2) ∧ w'.cell? ⟨gb120,3,none⟩ = some (.int .i64 a0_3) ∧ w'.cell? ⟨gb120,4,none⟩ = some (.int .i64 a0_4) ∧ w'.cell? ⟨gb120,5,none⟩ = some (.int .i64 a0_5) ∧ w'.cell? ⟨gb120,6,none⟩ = some (.int .i64 a0_6) ∧ w'.cell? ⟨gb120,7,none⟩ = some (.int .i64 a0_7)) (ds:=[]) #[nn,nn,nn,nn,nn,nn,nn,nn] (by kernel_rfl) rfl rfl ⟨(blk_cell BK120.out 0).trans rfl,(blk_cell BK120.out 1).trans rfl,(blk_cell BK120.out 2).trans rfl,(blk_cell BK120.out 3).trans rfl,(blk_cell BK120.out 4).trans rfl,(blk_cell BK120.out 5).trans rfl,(blk_cell BK120.out 6).trans rfl,(blk_cell BK120.out 7).trans rfl⟩ (fun hHeld => ?_);refine with_tabW config_asked_scale.tab1 config_asked_scale.bits1 (fun HT_ HW_ => ?_)
  generalize w7.drew = w8 at BK120 HB hHeld ⊢
  refine pure_ (i:=0) (N:=some 3) (v:=?_) (a':=?_) #[yy,nn,nn,nn,nn,nn,nn,nn] rfl rfl (any_of HT_.out (by kernel_rfl)) (fun _ _ _ h => h) (Or.inl ⟨by rfl,?_⟩) ?_ ?_
  rotate_left
  ·intro w'
   go_simp;with_reducible rfl
  rotate_left
  ·simp only [NR]
   rfl
  refine pure_ (i:=1) (N:=some 4) (v:=?_) (a':=?_) #[yy,yy,nn,nn,nn,nn,nn,nn] rfl rfl (any_of HT_.out (by kernel_rfl)) (fun _ _ _ h => h) (Or.inl ⟨by rfl,?_⟩) ?_ ?_
  rotate_left
  ·intro w'
   go_simp;with_reducible rfl
  rotate_left
  ·simp only [NR]
   rfl
  refine take_ (i:=2) (N:=some 5) (v:=?_) (a':=?_) #[yy,yy,yy,nn,nn,nn,nn,nn] rfl rfl (take_ofW HT_.out HW_.out (by kernel_rfl)) (fun _ _ _ h => h) (Or.inl ⟨by rfl,?_⟩) hHeld ?_ ?_
  rotate_left
  ·rintro w' ⟨s0,s1,s2,s3,s4,s5,s6,s7⟩
   go_simp;with_reducible rfl
  rotate_left
  ·simp only [NR]
   rfl
  refine pure_ (i:=3) (N:=some 6) (v:=?_) (a':=?_) #[yy,yy,yy,yy,nn,nn,nn,nn] rfl rfl (any_of HT_.out (by kernel_rfl)) (fun _ _ _ h => h) (Or.inl ⟨by rfl,?_⟩) ?_ ?_
  rotate_left
  ·intro w'
   go_simp;with_reducible rfl
  rotate_left
  ·simp only [NR]
   rfl
  refine take_ (i:=4) (N:=some 7) (v:=?_) (a':=?_) #[yy,yy,yy,yy,yy,nn,nn,nn] rfl rfl (take_ofW HT_.out HW_.out (by kernel_rfl)) (fun _ _ _ h => h) (Or.inl ⟨by rfl,?_⟩) hHeld ?_ ?_
  rotate_left
  ·rintro w' ⟨s0,s1,s2,s3,s4,s5,s6,s7⟩
   go_simp;with_reducible rfl
  rotate_left
  ·simp only [NR]
   rfl
  refine one_ (i:=5) (N:=some 8) #[yy,yy,yy,yy,yy,yy,nn,nn] rfl rfl (one_of HT_.out (by kernel_rfl)) (by decide) (fun K hK => ?_)
  refine goes_ Tryd.func64 (by kernel_rfl) rfl #[.agg #[.int .i64 a0_0,.int .i64 a0_1,.int .i64 a0_2,.int .i64 a0_3,.int .i64 a0_4,.int .i64 a0_5,.int .i64 a0_6,.int .i64 a0_7]] (by rfl) rfl rfl aA ?_
  with_reducible refine (config_asked_fairSize.calls a0_0 a0_1 a0_2 a0_3 a0_4 a0_5 a0_6 a0_7 t121 _ A2.out).mono ?_
  rintro e w9 ⟨rfl,hb⟩
  refine ⟨_,rfl,?_⟩;have n0_:=Am (blk_below (g:=gb120) kA hb);have n1_:=Am (below_step bA hb);clear BK120 HB;have BK120:=n0_;have HB:=n1_;clear n0_ n1_;(try clear hb)
  refine hK.out _ _ ⟨(blk_cell BK120.out 0).trans rfl,(blk_cell BK120.out 1).trans rfl,(blk_cell BK120.out 2).trans rfl,(blk_cell BK120.out 3).trans rfl,(blk_cell BK120.out 4).trans rfl,(blk_cell BK120.out 5).trans rfl,(blk_cell BK120.out 6).trans rfl,(blk_cell BK120.out 7).trans rfl⟩ (fun hHeld => ?_)
  clear hK K
  refine norm_ (a':=?_) ?_ ?_
  rotate_left
  ·show Act.put _ (some 8) _ = _
   simp only [NR]
   rfl
  refine pure_ (i:=6) (N:=some 9) (v:=?_) (a':=?_) #[yy,yy,yy,yy,yy,yy,yy,nn] rfl rfl (any_of HT_.out (by kernel_rfl)) (fun _ _ _ h => h) (Or.inl ⟨by rfl,?_⟩) ?_ ?_
  rotate_left
  ·intro w'
   go_simp;with_reducible rfl
  rotate_left
  ·simp only [NR]
   rfl
  refine pure_ (i:=7) (N:=some 10) (v:=?_) (a':=?_) #[yy,yy,yy,yy,yy,yy,yy,yy] rfl rfl (any_of HT_.out (by kernel_rfl)) (fun _ _ _ h => h) (Or.inl ⟨by rfl,?_⟩) ?_ ?_
  rotate_left
  ·intro w'
   go_simp;with_reducible rfl
  rotate_left
  ·simp only [NR]
   rfl
  refine done_ (done_of HT_.out (by kernel_rfl)) ?_
  try go_wp2
  go_ret
  exact ⟨by first | rfl | (simp [errW_none,errW_some] <;> rfl) | (simp [*,errW_none,errW_some] <;> rfl),bA⟩

def cmp_isNaN_uint64.f (a0 : Int) : Option (Bool):=some (a0 != a0)
set_option maxHeartbeats 8000000 in
set_option maxRecDepth 100000 in
theorem cmp_isNaN_uint64.calls (a0 : Int) (r : Bool) (w : World) (h : cmp_isNaN_uint64.f a0 = some r) :
  Calls Tryd.prog 83 #[.int .u64 a0] w fun e w' => e = .returned (.bool r) ∧ Drawn0 w w':=by
 have H : (some (a0 != a0)) = some r:=h
 clear h
 obtain rfl:=Option.some.inj H
 go_enter Tryd.func83,Tryd.ntmps83
 go_wp2
 go_ret
 exact ⟨by first | rfl | (simp;done) | (simp [*];done),by repeat (first | exact Drawn0.refl _ | apply Drawn0.step)⟩

def cmp_Compare_uint64.f (a0 : Int) (a1 : Int) : Option (Int):=(cmp_isNaN_uint64.f a0).bind fun t122 => ((cmp_isNaN_uint64.f a1).bind fun t123 => (if t122 = true then (if t123 = true then (some 0) else (some (-1))) else (if t123 = true then (some 1) else (if a0 < a1 then (some (-1)) else (if a0 > a1 then (some 1) else (some 0))))))
set_option maxHeartbeats 8000000 in
set_option maxRecDepth 100000 in
theorem cmp_Compare_uint64.calls (a0 : Int) (a1 : Int) (r : Int) (w : World) (h : cmp_Compare_uint64.f a0 a1 = some r) :
  Calls Tryd.prog 71 #[.int .u64 a0,.int .u64 a1] w fun e w' => e = .returned (.int .i64 r) ∧ Drawn0 w w':=by
 have H : ((cmp_isNaN_uint64.f a0).bind fun t122 => ((cmp_isNaN_uint64.f a1).bind fun t123 => (if t122 = true then (if t123 = true then (some 0) else (some (-1))) else (if t123 = true then (some 1) else (if a0 < a1 then (some (-1)) else (if a0 > a1 then (some 1) else (some 0))))))) = some r:=h
 clear h;replace H:=Option.bind_eq_some_iff.mp H;obtain ⟨t122,A30,H⟩:=H;replace H : ((cmp_isNaN_uint64.f a1).bind fun t123 => (if t122 = true then (if t123 = true then (some 0) else (some (-1))) else (if t123 = true then (some 1) else (if a0 < a1 then (some (-1)) else (if a0 > a1 then (some 1) else (some 0)))))) = some r:=H;have A3:=Aside0.mk A30;clear A30;replace H:=Option.bind_eq_some_iff.mp H;obtain ⟨t123,A40,H⟩:=H;replace H : (if t122 = true then (if t123 = true then (some 0) else (some (-1))) else (if t123 = true then (some 1) else (if a0 < a1 then (some (-1)) else (if a0 > a1 then (some 1) else (some 0))))) = some r:=H;have A4:=Aside0.mk A40;clear A40
 by_cases c5 : t122 = true
 ·subst c5
  have H1 : (if t123 = true then (some 0) else (some (-1))) = some r:=by rw [if_pos rfl] at H;exact H
  clear H
  have H:=H1
  clear H1
  by_cases c6 : t123 = true
  ·subst c6
   have H1 : (some 0) = some r:=by rw [if_pos rfl] at H;exact H
   clear H
   have H:=H1
   clear H1
   obtain rfl:=Option.some.inj H
   go_enter Tryd.func71,Tryd.ntmps71
   go_wp2_with (first | ((with_reducible refine gate_callee (f:=83) rfl ?_);refine goesL_ (some 8) rfl rfl Tryd.func83 (by kernel_rfl) rfl #[.int .u64 a0] rfl aA ?_;(with_reducible refine (cmp_isNaN_uint64.calls a0 true _ A3.out).mono ?_);rintro e w' ⟨rfl,⟨nd,rfl⟩⟩;refine ⟨_,rfl,?_⟩) | ((with_reducible refine gate_callee (f:=83) rfl ?_);refine goesL_ (some 10) rfl rfl Tryd.func83 (by kernel_rfl) rfl #[.int .u64 a1] rfl aA ?_;(with_reducible refine (cmp_isNaN_uint64.calls a1 true _ A4.out).mono ?_);rintro e w' ⟨rfl,⟨nd,rfl⟩⟩;refine ⟨_,rfl,?_⟩))
   go_ret
   exact ⟨by first | rfl | (simp;done) | (simp [*];done),by repeat (first | exact Drawn0.refl _ | apply Drawn0.step)⟩
  ·replace c6:=Bool.eq_false_iff.mpr c6
   subst c6
   have H1 : (some (-1)) = some r:=by rw [if_neg (show ¬ (false = true) by decide)] at H;exact H
   clear H
   have H:=H1
   clear H1
   obtain rfl:=Option.some.inj H
   go_enter Tryd.func71,Tryd.ntmps71
   go_wp2_with (first | ((with_reducible refine gate_callee (f:=83) rfl ?_);refine goesL_ (some 8) rfl rfl Tryd.func83 (by kernel_rfl) rfl #[.int .u64 a0] rfl aA ?_;(with_reducible refine (cmp_isNaN_uint64.calls a0 true _ A3.out).mono ?_);rintro e w' ⟨rfl,⟨nd,rfl⟩⟩;refine ⟨_,rfl,?_⟩) | ((with_reducible refine gate_callee (f:=83) rfl ?_);refine goesL_ (some 10) rfl rfl Tryd.func83 (by kernel_rfl) rfl #[.int .u64 a1] rfl aA ?_;(with_reducible refine (cmp_isNaN_uint64.calls a1 false _ A4.out).mono ?_);rintro e w' ⟨rfl,⟨nd,rfl⟩⟩;refine ⟨_,rfl,?_⟩))
   go_ret
   exact ⟨by first | rfl | (simp;done) | (simp [*];done),by repeat (first | exact Drawn0.refl _ | apply Drawn0.step)⟩
 ·replace c5:=Bool.eq_false_iff.mpr c5
  subst c5
  have H1 : (if t123 = true then (some 1) else (if a0 < a1 then (some (-1)) else (if a0 > a1 then (some 1) else (some 0)))) = some r:=by rw [if_neg (show ¬ (false = true) by decide)] at H;exact H
  clear H
  have H:=H1
  clear H1
  by_cases c7 : t123 = true
  ·subst c7
   have H1 : (some 1) = some r:=by rw [if_pos rfl] at H;exact H
   clear H
   have H:=H1
   clear H1
   obtain rfl:=Option.some.inj H
   go_enter Tryd.func71,Tryd.ntmps71
   go_wp2_with (first | ((with_reducible refine gate_callee (f:=83) rfl ?_);refine goesL_ (some 8) rfl rfl Tryd.func83 (by kernel_rfl) rfl #[.int .u64 a0] rfl aA ?_;(with_reducible refine (cmp_isNaN_uint64.calls a0 false _ A3.out).mono ?_);rintro e w' ⟨rfl,⟨nd,rfl⟩⟩;refine ⟨_,rfl,?_⟩) | ((with_reducible refine gate_callee (f:=83) rfl ?_);refine goesL_ (some 10) rfl rfl Tryd.func83 (by kernel_rfl) rfl #[.int .u64 a1] rfl aA ?_;(with_reducible refine (cmp_isNaN_uint64.calls a1 true _ A4.out).mono ?_);rintro e w' ⟨rfl,⟨nd,rfl⟩⟩;refine ⟨_,rfl,?_⟩))
   go_ret
   exact ⟨by first | rfl | (simp;done) | (simp [*];done),by repeat (first | exact Drawn0.refl _ | apply Drawn0.step)⟩
  ·replace c7:=Bool.eq_false_iff.mpr c7
   subst c7
   have H1 : (if a0 < a1 then (some (-1)) else (if a0 > a1 then (some 1) else (some 0))) = some r:=by rw [if_neg (show ¬ (false = true) by decide)] at H;exact H
   clear H
   have H:=H1
   clear H1
   by_cases c8 : a0 < a1
   ·rw [if_pos c8] at H
    have c8b0 : decide (a0 < a1) = true:=decide_eq_true c8
    clear c8
    obtain rfl:=Option.some.inj H
    go_enter Tryd.func71,Tryd.ntmps71
    go_wp2_with (first | ((with_reducible refine gate_callee (f:=83) rfl ?_);refine goesL_ (some 8) rfl rfl Tryd.func83 (by kernel_rfl) rfl #[.int .u64 a0] rfl aA ?_;(with_reducible refine (cmp_isNaN_uint64.calls a0 false _ A3.out).mono ?_);rintro e w' ⟨rfl,⟨nd,rfl⟩⟩;refine ⟨_,rfl,?_⟩) | ((with_reducible refine gate_callee (f:=83) rfl ?_);refine goesL_ (some 10) rfl rfl Tryd.func83 (by kernel_rfl) rfl #[.int .u64 a1] rfl aA ?_;(with_reducible refine (cmp_isNaN_uint64.calls a1 false _ A4.out).mono ?_);rintro e w' ⟨rfl,⟨nd,rfl⟩⟩;refine ⟨_,rfl,?_⟩))
    go_ret
    exact ⟨by first | rfl | (simp;done) | (simp [*];done),by repeat (first | exact Drawn0.refl _ | apply Drawn0.step)⟩
   ·rw [if_neg c8] at H
    have c8b0 : decide (a0 < a1) = false:=decide_eq_false c8
    clear c8
    by_cases c9 : a0 > a1
    ·rw [if_pos c9] at H
     have c9b0 : decide (a1 < a0) = true:=decide_eq_true c9
     clear c9
     obtain rfl:=Option.some.inj H
     go_enter Tryd.func71,Tryd.ntmps71
     go_wp2_with (first | ((with_reducible refine gate_callee (f:=83) rfl ?_);refine goesL_ (some 8) rfl rfl Tryd.func83 (by kernel_rfl) rfl #[.int .u64 a0] rfl aA ?_;(with_reducible refine (cmp_isNaN_uint64.calls a0 false _ A3.out).mono ?_);rintro e w' ⟨rfl,⟨nd,rfl⟩⟩;refine ⟨_,rfl,?_⟩) | ((with_reducible refine gate_callee (f:=83) rfl ?_);refine goesL_ (some 10) rfl rfl Tryd.func83 (by kernel_rfl) rfl #[.int .u64 a1] rfl aA ?_;(with_reducible refine (cmp_isNaN_uint64.calls a1 false _ A4.out).mono ?_);rintro e w' ⟨rfl,⟨nd,rfl⟩⟩;refine ⟨_,rfl,?_⟩))
     go_ret
     exact ⟨by first | rfl | (simp;done) | (simp [*];done),by repeat (first | exact Drawn0.refl _ | apply Drawn0.step)⟩
    ·rw [if_neg c9] at H
     have c9b0 : decide (a1 < a0) = false:=decide_eq_false c9
     clear c9
     obtain rfl:=Option.some.inj H
     go_enter Tryd.func71,Tryd.ntmps71
     go_wp2_with (first | ((with_reducible refine gate_callee (f:=83) rfl ?_);refine goesL_ (some 8) rfl rfl Tryd.func83 (by kernel_rfl) rfl #[.int .u64 a0] rfl aA ?_;(with_reducible refine (cmp_isNaN_uint64.calls a0 false _ A3.out).mono ?_);rintro e w' ⟨rfl,⟨nd,rfl⟩⟩;refine ⟨_,rfl,?_⟩) | ((with_reducible refine gate_callee (f:=83) rfl ?_);refine goesL_ (some 10) rfl rfl Tryd.func83 (by kernel_rfl) rfl #[.int .u64 a1] rfl aA ?_;(with_reducible refine (cmp_isNaN_uint64.calls a1 false _ A4.out).mono ?_);rintro e w' ⟨rfl,⟨nd,rfl⟩⟩;refine ⟨_,rfl,?_⟩))
     go_ret
     exact ⟨by first | rfl | (simp;done) | (simp [*];done),by repeat (first | exact Drawn0.refl _ | apply Drawn0.step)⟩

def wide_Cmp.f (a0_0 : Int) (a0_1 : Int) (a1_0 : Int) (a1_1 : Int) : Option (Int):=if a0_0 = a1_0 then ((cmp_Compare_uint64.f a0_1 a1_1).bind fun t126 => (some t126)) else ((cmp_Compare_uint64.f a0_0 a1_0).bind fun t127 => (some t127))
set_option maxHeartbeats 8000000 in
set_option maxRecDepth 100000 in
theorem wide_Cmp.calls (a0_0 : Int) (a0_1 : Int) (a1_0 : Int) (a1_1 : Int) (r : Int) (w : World) (h : wide_Cmp.f a0_0 a0_1 a1_0 a1_1 = some r) :
  Calls Tryd.prog 43 #[.agg #[.int .u64 a0_0,.int .u64 a0_1],.agg #[.int .u64 a1_0,.int .u64 a1_1]] w fun e w' => e = .returned (.int .i64 r) ∧ Below w.heap.size w w':=by
 have hu76:=Tryd.underlying76
 have HB:=Am (Below.refl w.heap.size w)
 have H : (if a0_0 = a1_0 then ((cmp_Compare_uint64.f a0_1 a1_1).bind fun t126 => (some t126)) else ((cmp_Compare_uint64.f a0_0 a1_0).bind fun t127 => (some t127))) = some r:=h
 clear h
 by_cases c3 : a0_0 = a1_0
 ·rw [if_pos c3] at H
  have c3b0 : (a0_0 == a1_0) = true:=beq_iff_eq.mpr c3
  have c3b1 : (a0_0 != a1_0) = false:=bne_eq_false_iff_eq.mpr c3
  clear c3;replace H:=Option.bind_eq_some_iff.mp H;obtain ⟨t126,A40,H⟩:=H;replace H : (some t126) = some r:=H;have A4:=Aside0.mk A40;clear A40
  obtain rfl:=Option.some.inj H
  go_enter Tryd.func43,Tryd.ntmps43
  go_wp2_with (first | ((with_reducible refine gate_dst (N:=2) rfl ?_);refine bxA 2 #[.int .u64 a0_0,.int .u64 a0_1] 76 ?_;intro gb124 hg w5 hbox hb;have n0_:=Am (below_step bA hb);have n1_:=Am (hbox);have n2_:=Am (gwA hg bA);have n3_:=Am (gwA hg bA);clear HB;have HB:=n0_;have BK124:=n1_;have GW124:=n2_;have GE124:=n3_;clear n0_ n1_ n2_ n3_ hb hbox hg) | ((with_reducible refine gate_dst (N:=3) rfl ?_);refine bxA 3 #[.int .u64 a1_0,.int .u64 a1_1] 76 ?_;intro gb125 hg w6 hbox hb;have n0_:=Am (blk_below (g:=gb124) kA hb);have n1_:=Am (below_step bA hb);have n2_:=Am (hbox);have n3_:=Am (gwA hg bA);have n4_:=Am (gwA hg bA);have n5_:=Am (neA (g:=gb124) hg kA);have n6_:=Am (neB (g:=gb124) hg kA);clear BK124 HB;have BK124:=n0_;have HB:=n1_;have BK125:=n2_;have GW125:=n3_;have GE125:=n4_;have NB124_125:=n5_;have NB125_124:=n6_;clear n0_ n1_ n2_ n3_ n4_ n5_ n6_ hb hbox hg;have hnb7:=NB124_125.out;have hnc7:=NB125_124.out;have hcz8_0 : w6.cell? ⟨gb124,0,none⟩ = some (.int .u64 a0_0):=(blk_cell BK124.out 0).trans rfl;have hcz8_1 : w6.cell? ⟨gb124,1,none⟩ = some (.int .u64 a0_1):=(blk_cell BK124.out 1).trans rfl;have hfz8_0:=blk_frozen BK124.out 0;have hfz8_1:=blk_frozen BK124.out 1;have hcz9_0 : w6.cell? ⟨gb125,0,none⟩ = some (.int .u64 a1_0):=(blk_cell BK125.out 0).trans rfl;have hcz9_1 : w6.cell? ⟨gb125,1,none⟩ = some (.int .u64 a1_1):=(blk_cell BK125.out 1).trans rfl;have hfz9_0:=blk_frozen BK125.out 0;have hfz9_1:=blk_frozen BK125.out 1) | ((with_reducible refine gate_callee (f:=71) rfl ?_);refine goesL_ (some 19) rfl rfl Tryd.func71 (by kernel_rfl) rfl #[.int .u64 a0_1,.int .u64 a1_1] rfl aA ?_;(with_reducible refine (cmp_Compare_uint64.calls a0_1 a1_1 t126 _ A4.out).mono ?_);rintro e w' ⟨rfl,⟨nd,rfl⟩⟩;refine ⟨_,rfl,?_⟩))
  go_ret
  exact ⟨by first | rfl | (simp [errW_none,errW_some] <;> rfl) | (simp [*,errW_none,errW_some] <;> rfl),bA⟩
 ·rw [if_neg c3] at H
  have c3b0 : (a0_0 == a1_0) = false:=beq_eq_false_iff_ne.mpr c3
  have c3b1 : (a0_0 != a1_0) = true:=bne_iff_ne.mpr c3
  replace H:=Option.bind_eq_some_iff.mp H;obtain ⟨t127,A100,H⟩:=H;replace H : (some t127) = some r:=H;have A10:=Aside0.mk A100;clear A100
  obtain rfl:=Option.some.inj H
  go_enter Tryd.func43,Tryd.ntmps43
  go_wp2_with (first | ((with_reducible refine gate_dst (N:=2) rfl ?_);refine bxA 2 #[.int .u64 a0_0,.int .u64 a0_1] 76 ?_;intro gb124 hg w11 hbox hb;have n0_:=Am (below_step bA hb);have n1_:=Am (hbox);have n2_:=Am (gwA hg bA);have n3_:=Am (gwA hg bA);clear HB;have HB:=n0_;have BK124:=n1_;have GW124:=n2_;have GE124:=n3_;clear n0_ n1_ n2_ n3_ hb hbox hg) | ((with_reducible refine gate_dst (N:=3) rfl ?_);refine bxA 3 #[.int .u64 a1_0,.int .u64 a1_1] 76 ?_;intro gb125 hg w12 hbox hb;have n0_:=Am (blk_below (g:=gb124) kA hb);have n1_:=Am (below_step bA hb);have n2_:=Am (hbox);have n3_:=Am (gwA hg bA);have n4_:=Am (gwA hg bA);have n5_:=Am (neA (g:=gb124) hg kA);have n6_:=Am (neB (g:=gb124) hg kA);clear BK124 HB;have BK124:=n0_;have HB:=n1_;have BK125:=n2_;have GW125:=n3_;have GE125:=n4_;have NB124_125:=n5_;have NB125_124:=n6_;clear n0_ n1_ n2_ n3_ n4_ n5_ n6_ hb hbox hg;have hnb13:=NB124_125.out;have hnc13:=NB125_124.out;have hcz14_0 : w12.cell? ⟨gb124,0,none⟩ = some (.int .u64 a0_0):=(blk_cell BK124.out 0).trans rfl;have hcz14_1 : w12.cell? ⟨gb124,1,none⟩ = some (.int .u64 a0_1):=(blk_cell BK124.out 1).trans rfl;have hfz14_0:=blk_frozen BK124.out 0;have hfz14_1:=blk_frozen BK124.out 1;have hcz15_0 : w12.cell? ⟨gb125,0,none⟩ = some (.int .u64 a1_0):=(blk_cell BK125.out 0).trans rfl;have hcz15_1 : w12.cell? ⟨gb125,1,none⟩ = some (.int .u64 a1_1):=(blk_cell BK125.out 1).trans rfl;have hfz15_0:=blk_frozen BK125.out 0;have hfz15_1:=blk_frozen BK125.out 1) | ((with_reducible refine gate_callee (f:=71) rfl ?_);refine goesL_ (some 14) rfl rfl Tryd.func71 (by kernel_rfl) rfl #[.int .u64 a0_0,.int .u64 a1_0] rfl aA ?_;(with_reducible refine (cmp_Compare_uint64.calls a0_0 a1_0 t127 _ A10.out).mono ?_);rintro e w' ⟨rfl,⟨nd,rfl⟩⟩;refine ⟨_,rfl,?_⟩))
  go_ret
  exact ⟨by first | rfl | (simp [errW_none,errW_some] <;> rfl) | (simp [*,errW_none,errW_some] <;> rfl),bA⟩

def wide_Of.f (a0 : Int) : Option (Int × Int):=some (0,a0)
set_option maxHeartbeats 8000000 in
set_option maxRecDepth 100000 in
theorem wide_Of.calls (a0 : Int) (r1 : Int) (r2 : Int) (w : World) (h : wide_Of.f a0 = some (r1,r2)) :
  Calls Tryd.prog 44 #[.int .u64 a0] w fun e w' => e = .returned (.agg #[.int .u64 r1,.int .u64 r2]) ∧ Below w.heap.size w w':=by
 have hu76:=Tryd.underlying76
 have HB:=Am (Below.refl w.heap.size w)
 have H : (some (0,a0)) = some (r1,r2):=h
 clear h
 simp only [Option.some.injEq,Prod.mk.injEq] at H
 obtain ⟨rfl,rfl⟩:=H
 go_enter Tryd.func44,Tryd.ntmps44
 go_wp2_with (first | ((with_reducible refine gate_dst (N:=2) rfl ?_);refine bxA 2 #[.int .u64 0,.int .u64 0] 76 ?_;intro gb128 hg w2 hbox hb;have n0_:=Am (below_step bA hb);have n1_:=Am (hbox);have n2_:=Am (gwA hg bA);have n3_:=Am (gwA hg bA);clear HB;have HB:=n0_;have BK128:=n1_;have GW128:=n2_;have GE128:=n3_;clear n0_ n1_ n2_ n3_ hb hbox hg;have hcz3_0 : w2.cell? ⟨gb128,0,none⟩ = some (.int .u64 0):=(blk_cell BK128.out 0).trans rfl;have hcz3_1 : w2.cell? ⟨gb128,1,none⟩ = some (.int .u64 0):=(blk_cell BK128.out 1).trans rfl;have hfz3_0:=blk_frozen BK128.out 0;have hfz3_1:=blk_frozen BK128.out 1))
 refine bodyPost_ret (results_cell_row rfl _ _ gb128 76 #[.int .u64 0,.int .u64 a0] (0,0) _ rfl (by (with_reducible repeat (first | refine b1 ?_ _ | refine b2 ?_ | refine b3 ?_ _));refine blk_put (cs:=#[.int .u64 0,.int .u64 0]) ?_ 1 _ rfl;(with_reducible repeat (first | refine b1 ?_ _ | refine b2 ?_ | refine b3 ?_ _));refine blk_put (cs:=#[.int .u64 0,.int .u64 0]) ?_ 0 _ rfl;exact kA) Tryd.underlying76 rfl (by kernel_rfl)) rfl ?_
 exact ⟨by first | rfl | (simp [errW_none,errW_some] <;> rfl) | (simp [*,errW_none,errW_some] <;> rfl),bA⟩

def bits_Add64.f (a0 a1 a2 : Int) : Option (Int × Int):=
 if 0 ≤ a0 ∧ 0 ≤ a1 ∧ 0 ≤ a2 ∧ a2 ≤ 1 then some ((a0 + a1 + a2) % 18446744073709551616,(a0 + a1 + a2) / 18446744073709551616) else none
theorem bits_Add64.calls (a0 a1 a2 r1 r2 : Int) (w : World) (h : bits_Add64.f a0 a1 a2 = some (r1,r2)) :
  CallsX Tryd.prog 72 #[.int .u64 a0,.int .u64 a1,.int .u64 a2] w fun e w' => e = .returned (.tuple #[.int .u64 r1,.int .u64 r2]) ∧ Below w.heap.size w w':=by
 unfold bits_Add64.f at h
 split at h
 ·rename_i hb
  simp only [Option.some.injEq,Prod.mk.injEq] at h
  obtain ⟨rfl,rfl⟩:=h
  refine ⟨_,w,?_,rfl,Below.refl _ _⟩
  rw [run_callFunc_extern Tryd.func72 (by kernel_rfl) (by kernel_rfl) (by kernel_rfl) (e:=add64Entry) (by kernel_rfl),run_add64 a0 a1 a2 hb.1 hb.2.1 hb.2.2.1 hb.2.2.2]
  rfl
 ·cases h

def wide_greatest.f  : Option (Int × Int):=some (18446744073709551615,18446744073709551615)
set_option maxHeartbeats 8000000 in
set_option maxRecDepth 100000 in
theorem wide_greatest.calls  (r1 : Int) (r2 : Int) (w : World) (h : wide_greatest.f  = some (r1,r2)) :
  Calls Tryd.prog 73 #[] w fun e w' => e = .returned (.agg #[.int .u64 r1,.int .u64 r2]) ∧ Below w.heap.size w w':=by
 have hu76:=Tryd.underlying76
 have HB:=Am (Below.refl w.heap.size w)
 have H : (some (18446744073709551615,18446744073709551615)) = some (r1,r2):=h
 clear h
 simp only [Option.some.injEq,Prod.mk.injEq] at H
 obtain ⟨rfl,rfl⟩:=H
 go_enter Tryd.func73,Tryd.ntmps73
 go_wp2_with (first | ((with_reducible refine gate_dst (N:=0) rfl ?_);refine bxA 0 #[.int .u64 0,.int .u64 0] 76 ?_;intro gb129 hg w1 hbox hb;have n0_:=Am (below_step bA hb);have n1_:=Am (hbox);have n2_:=Am (gwA hg bA);have n3_:=Am (gwA hg bA);clear HB;have HB:=n0_;have BK129:=n1_;have GW129:=n2_;have GE129:=n3_;clear n0_ n1_ n2_ n3_ hb hbox hg;have hcz2_0 : w1.cell? ⟨gb129,0,none⟩ = some (.int .u64 0):=(blk_cell BK129.out 0).trans rfl;have hcz2_1 : w1.cell? ⟨gb129,1,none⟩ = some (.int .u64 0):=(blk_cell BK129.out 1).trans rfl;have hfz2_0:=blk_frozen BK129.out 0;have hfz2_1:=blk_frozen BK129.out 1))
 refine bodyPost_ret (results_cell_row rfl _ _ gb129 76 #[.int .u64 18446744073709551615,.int .u64 18446744073709551615] (0,0) _ rfl (by (with_reducible repeat (first | refine b1 ?_ _ | refine b2 ?_ | refine b3 ?_ _));refine blk_put (cs:=#[.int .u64 18446744073709551615,.int .u64 0]) ?_ 1 _ rfl;(with_reducible repeat (first | refine b1 ?_ _ | refine b2 ?_ | refine b3 ?_ _));refine blk_put (cs:=#[.int .u64 0,.int .u64 0]) ?_ 0 _ rfl;exact kA) Tryd.underlying76 rfl (by kernel_rfl)) rfl ?_
 exact ⟨by first | rfl | (simp [errW_none,errW_some] <;> rfl) | (simp [*,errW_none,errW_some] <;> rfl),bA⟩

def wide_Add.f (a0_0 : Int) (a0_1 : Int) (a1_0 : Int) (a1_1 : Int) : Option (Int × Int × Bool):=(bits_Add64.f a0_1 a1_1 0).bind fun bt133 => ((bits_Add64.f a0_0 a1_0 bt133.2).bind fun bt135 => (if bt135.2 > 0 then ((wide_greatest.f).bind fun bt137 => (some (bt137.1,bt137.2,false))) else (some (bt135.1,bt133.1,true))))
set_option maxHeartbeats 8000000 in
set_option maxRecDepth 100000 in
theorem wide_Add.calls (a0_0 : Int) (a0_1 : Int) (a1_0 : Int) (a1_1 : Int) (r1 : Int) (r2 : Int) (r3 : Bool) (w : World) (h : wide_Add.f a0_0 a0_1 a1_0 a1_1 = some (r1,r2,r3)) :
  Calls Tryd.prog 46 #[.agg #[.int .u64 a0_0,.int .u64 a0_1],.agg #[.int .u64 a1_0,.int .u64 a1_1]] w fun e w' => e = .returned (.tuple #[.agg #[.int .u64 r1,.int .u64 r2],.bool r3]) ∧ Below w.heap.size w w':=by
 have hu76:=Tryd.underlying76
 have HB:=Am (Below.refl w.heap.size w)
 have H : ((bits_Add64.f a0_1 a1_1 0).bind fun bt133 => ((bits_Add64.f a0_0 a1_0 bt133.2).bind fun bt135 => (if bt135.2 > 0 then ((wide_greatest.f).bind fun bt137 => (some (bt137.1,bt137.2,false))) else (some (bt135.1,bt133.1,true))))) = some (r1,r2,r3):=h
 clear h;replace H:=Option.bind_eq_some_iff.mp H;obtain ⟨⟨t133,t134⟩,A30,H⟩:=H;replace H : ((bits_Add64.f a0_0 a1_0 t134).bind fun bt135 => (if bt135.2 > 0 then ((wide_greatest.f).bind fun bt137 => (some (bt137.1,bt137.2,false))) else (some (bt135.1,t133,true)))) = some (r1,r2,r3):=H;have A3:=Aside0.mk A30;clear A30;replace H:=Option.bind_eq_some_iff.mp H;obtain ⟨⟨t135,t136⟩,A40,H⟩:=H;replace H : (if t136 > 0 then ((wide_greatest.f).bind fun bt137 => (some (bt137.1,bt137.2,false))) else (some (t135,t133,true))) = some (r1,r2,r3):=H;have A4:=Aside0.mk A40;clear A40
 by_cases c5 : t136 > 0
 ·rw [if_pos c5] at H
  have c5b0 : decide (0 < t136) = true:=decide_eq_true c5
  clear c5;replace H:=Option.bind_eq_some_iff.mp H;obtain ⟨⟨t137,t138⟩,A60,H⟩:=H;replace H : (some (t137,t138,false)) = some (r1,r2,r3):=H;have A6:=Aside0.mk A60;clear A60
  simp only [Option.some.injEq,Prod.mk.injEq] at H
  obtain ⟨rfl,rfl,rfl⟩:=H
  go_enter Tryd.func46,Tryd.ntmps46
  go_wp2_with (first | ((with_reducible refine gate_dst (N:=2) rfl ?_);refine bxA 2 #[.int .u64 a0_0,.int .u64 a0_1] 76 ?_;intro gb130 hg w7 hbox hb;have n0_:=Am (below_step bA hb);have n1_:=Am (hbox);have n2_:=Am (gwA hg bA);have n3_:=Am (gwA hg bA);clear HB;have HB:=n0_;have BK130:=n1_;have GW130:=n2_;have GE130:=n3_;clear n0_ n1_ n2_ n3_ hb hbox hg) | ((with_reducible refine gate_dst (N:=3) rfl ?_);refine bxA 3 #[.int .u64 a1_0,.int .u64 a1_1] 76 ?_;intro gb131 hg w8 hbox hb;have n0_:=Am (blk_below (g:=gb130) kA hb);have n1_:=Am (below_step bA hb);have n2_:=Am (hbox);have n3_:=Am (gwA hg bA);have n4_:=Am (gwA hg bA);have n5_:=Am (neA (g:=gb130) hg kA);have n6_:=Am (neB (g:=gb130) hg kA);clear BK130 HB;have BK130:=n0_;have HB:=n1_;have BK131:=n2_;have GW131:=n3_;have GE131:=n4_;have NB130_131:=n5_;have NB131_130:=n6_;clear n0_ n1_ n2_ n3_ n4_ n5_ n6_ hb hbox hg) | ((with_reducible refine gate_dst (N:=4) rfl ?_);refine bxA 4 #[.int .u64 0,.int .u64 0] 76 ?_;intro gb132 hg w9 hbox hb;have n0_:=Am (blk_below (g:=gb130) kA hb);have n1_:=Am (blk_below (g:=gb131) kA hb);have n2_:=Am (below_step bA hb);have n3_:=Am (hbox);have n4_:=Am (gwA hg bA);have n5_:=Am (gwA hg bA);have n6_:=Am (neA (g:=gb130) hg kA);have n7_:=Am (neB (g:=gb130) hg kA);have n8_:=Am (neA (g:=gb131) hg kA);have n9_:=Am (neB (g:=gb131) hg kA);clear BK130 BK131 HB;have BK130:=n0_;have BK131:=n1_;have HB:=n2_;have BK132:=n3_;have GW132:=n4_;have GE132:=n5_;have NB130_132:=n6_;have NB132_130:=n7_;have NB131_132:=n8_;have NB132_131:=n9_;clear n0_ n1_ n2_ n3_ n4_ n5_ n6_ n7_ n8_ n9_ hb hbox hg;have hnb10:=NB130_131.out;have hnc10:=NB131_130.out;have hnb11:=NB130_132.out;have hnc11:=NB132_130.out;have hcz12_0 : w9.cell? ⟨gb130,0,none⟩ = some (.int .u64 a0_0):=(blk_cell BK130.out 0).trans rfl;have hcz12_1 : w9.cell? ⟨gb130,1,none⟩ = some (.int .u64 a0_1):=(blk_cell BK130.out 1).trans rfl;have hfz12_0:=blk_frozen BK130.out 0;have hfz12_1:=blk_frozen BK130.out 1;have hnb13:=NB131_132.out;have hnc13:=NB132_131.out;have hcz14_0 : w9.cell? ⟨gb131,0,none⟩ = some (.int .u64 a1_0):=(blk_cell BK131.out 0).trans rfl;have hcz14_1 : w9.cell? ⟨gb131,1,none⟩ = some (.int .u64 a1_1):=(blk_cell BK131.out 1).trans rfl;have hfz14_0:=blk_frozen BK131.out 0;have hfz14_1:=blk_frozen BK131.out 1) | ((with_reducible refine gate_callee (f:=72) rfl ?_);refine goesX_ (some 14) rfl rfl #[.int .u64 a0_1,.int .u64 a1_1,.int .u64 0] rfl aA ?_;(with_reducible refine (bits_Add64.calls a0_1 a1_1 0 t133 t134 _ A3.out).mono ?_);rintro e w15 ⟨rfl,hb⟩;refine ⟨_,rfl,?_⟩;have n0_:=Am (blk_below (g:=gb130) kA hb);have n1_:=Am (blk_below (g:=gb131) kA hb);have n2_:=Am (blk_below (g:=gb132) kA hb);have n3_:=Am (below_step bA hb);clear BK130 BK131 BK132 HB;have BK130:=n0_;have BK131:=n1_;have BK132:=n2_;have HB:=n3_;clear n0_ n1_ n2_ n3_;(try clear hb);have hcz16_0 : w15.cell? ⟨gb130,0,none⟩ = some (.int .u64 a0_0):=(blk_cell BK130.out 0).trans rfl;have hcz16_1 : w15.cell? ⟨gb130,1,none⟩ = some (.int .u64 a0_1):=(blk_cell BK130.out 1).trans rfl;have hfz16_0:=blk_frozen BK130.out 0;have hfz16_1:=blk_frozen BK130.out 1;have hcz17_0 : w15.cell? ⟨gb131,0,none⟩ = some (.int .u64 a1_0):=(blk_cell BK131.out 0).trans rfl;have hcz17_1 : w15.cell? ⟨gb131,1,none⟩ = some (.int .u64 a1_1):=(blk_cell BK131.out 1).trans rfl;have hfz17_0:=blk_frozen BK131.out 0;have hfz17_1:=blk_frozen BK131.out 1) | ((with_reducible refine gate_callee (f:=72) rfl ?_);refine goesX_ (some 23) rfl rfl #[.int .u64 a0_0,.int .u64 a1_0,.int .u64 t134] rfl aA ?_;(with_reducible refine (bits_Add64.calls a0_0 a1_0 t134 t135 t136 _ A4.out).mono ?_);rintro e w18 ⟨rfl,hb⟩;refine ⟨_,rfl,?_⟩;have n0_:=Am (blk_below (g:=gb130) kA hb);have n1_:=Am (blk_below (g:=gb131) kA hb);have n2_:=Am (blk_below (g:=gb132) kA hb);have n3_:=Am (below_step bA hb);clear BK130 BK131 BK132 HB;have BK130:=n0_;have BK131:=n1_;have BK132:=n2_;have HB:=n3_;clear n0_ n1_ n2_ n3_;(try clear hb)) | ((with_reducible refine gate_callee (f:=73) rfl ?_);refine goesL_ (some 28) rfl rfl Tryd.func73 (by kernel_rfl) rfl #[] rfl aA ?_;(with_reducible refine (wide_greatest.calls  t137 t138 _ A6.out).mono ?_);rintro e w19 ⟨rfl,hb⟩;refine ⟨_,rfl,?_⟩;have n0_:=Am (blk_below (g:=gb130) kA hb);have n1_:=Am (blk_below (g:=gb131) kA hb);have n2_:=Am (blk_below (g:=gb132) kA hb);have n3_:=Am (below_step bA hb);clear BK130 BK131 BK132 HB;have BK130:=n0_;have BK131:=n1_;have BK132:=n2_;have HB:=n3_;clear n0_ n1_ n2_ n3_;(try clear hb);have hcz20_0 : w19.cell? ⟨gb132,0,none⟩ = some (.int .u64 0):=(blk_cell BK132.out 0).trans rfl;have hcz20_1 : w19.cell? ⟨gb132,1,none⟩ = some (.int .u64 0):=(blk_cell BK132.out 1).trans rfl;have hfz20_0:=blk_frozen BK132.out 0;have hfz20_1:=blk_frozen BK132.out 1))
  refine bodyPost_ret (results_ct rfl _ _ gb132 76 #[.int .u64 t137,.int .u64 t138] (0,0) _ rfl (by (with_reducible repeat (first | refine b1 ?_ _ | refine b2 ?_ | refine b3 ?_ _));refine blk_put (cs:=#[.int .u64 t137,.int .u64 0]) ?_ 1 _ rfl;(with_reducible repeat (first | refine b1 ?_ _ | refine b2 ?_ | refine b3 ?_ _));refine blk_put (cs:=#[.int .u64 0,.int .u64 0]) ?_ 0 _ rfl;exact kA) Tryd.underlying76 rfl (by kernel_rfl)) rfl ?_
  exact ⟨by first | rfl | (simp [errW_none,errW_some] <;> rfl) | (simp [*,errW_none,errW_some] <;> rfl),bA⟩
 ·rw [if_neg c5] at H
  have c5b0 : decide (0 < t136) = false:=decide_eq_false c5
  clear c5
  simp only [Option.some.injEq,Prod.mk.injEq] at H
  obtain ⟨rfl,rfl,rfl⟩:=H
  go_enter Tryd.func46,Tryd.ntmps46
  go_wp2_with (first | ((with_reducible refine gate_dst (N:=2) rfl ?_);refine bxA 2 #[.int .u64 a0_0,.int .u64 a0_1] 76 ?_;intro gb130 hg w21 hbox hb;have n0_:=Am (below_step bA hb);have n1_:=Am (hbox);have n2_:=Am (gwA hg bA);have n3_:=Am (gwA hg bA);clear HB;have HB:=n0_;have BK130:=n1_;have GW130:=n2_;have GE130:=n3_;clear n0_ n1_ n2_ n3_ hb hbox hg) | ((with_reducible refine gate_dst (N:=3) rfl ?_);refine bxA 3 #[.int .u64 a1_0,.int .u64 a1_1] 76 ?_;intro gb131 hg w22 hbox hb;have n0_:=Am (blk_below (g:=gb130) kA hb);have n1_:=Am (below_step bA hb);have n2_:=Am (hbox);have n3_:=Am (gwA hg bA);have n4_:=Am (gwA hg bA);have n5_:=Am (neA (g:=gb130) hg kA);have n6_:=Am (neB (g:=gb130) hg kA);clear BK130 HB;have BK130:=n0_;have HB:=n1_;have BK131:=n2_;have GW131:=n3_;have GE131:=n4_;have NB130_131:=n5_;have NB131_130:=n6_;clear n0_ n1_ n2_ n3_ n4_ n5_ n6_ hb hbox hg) | ((with_reducible refine gate_dst (N:=4) rfl ?_);refine bxA 4 #[.int .u64 0,.int .u64 0] 76 ?_;intro gb132 hg w23 hbox hb;have n0_:=Am (blk_below (g:=gb130) kA hb);have n1_:=Am (blk_below (g:=gb131) kA hb);have n2_:=Am (below_step bA hb);have n3_:=Am (hbox);have n4_:=Am (gwA hg bA);have n5_:=Am (gwA hg bA);have n6_:=Am (neA (g:=gb130) hg kA);have n7_:=Am (neB (g:=gb130) hg kA);have n8_:=Am (neA (g:=gb131) hg kA);have n9_:=Am (neB (g:=gb131) hg kA);clear BK130 BK131 HB;have BK130:=n0_;have BK131:=n1_;have HB:=n2_;have BK132:=n3_;have GW132:=n4_;have GE132:=n5_;have NB130_132:=n6_;have NB132_130:=n7_;have NB131_132:=n8_;have NB132_131:=n9_;clear n0_ n1_ n2_ n3_ n4_ n5_ n6_ n7_ n8_ n9_ hb hbox hg;have hnb24:=NB130_131.out;have hnc24:=NB131_130.out;have hnb25:=NB130_132.out;have hnc25:=NB132_130.out;have hcz26_0 : w23.cell? ⟨gb130,0,none⟩ = some (.int .u64 a0_0):=(blk_cell BK130.out 0).trans rfl;have hcz26_1 : w23.cell? ⟨gb130,1,none⟩ = some (.int .u64 a0_1):=(blk_cell BK130.out 1).trans rfl;have hfz26_0:=blk_frozen BK130.out 0;have hfz26_1:=blk_frozen BK130.out 1;have hnb27:=NB131_132.out;have hnc27:=NB132_131.out;have hcz28_0 : w23.cell? ⟨gb131,0,none⟩ = some (.int .u64 a1_0):=(blk_cell BK131.out 0).trans rfl;have hcz28_1 : w23.cell? ⟨gb131,1,none⟩ = some (.int .u64 a1_1):=(blk_cell BK131.out 1).trans rfl;have hfz28_0:=blk_frozen BK131.out 0;have hfz28_1:=blk_frozen BK131.out 1) | ((with_reducible refine gate_callee (f:=72) rfl ?_);refine goesX_ (some 14) rfl rfl #[.int .u64 a0_1,.int .u64 a1_1,.int .u64 0] rfl aA ?_;(with_reducible refine (bits_Add64.calls a0_1 a1_1 0 t133 t134 _ A3.out).mono ?_);rintro e w29 ⟨rfl,hb⟩;refine ⟨_,rfl,?_⟩;have n0_:=Am (blk_below (g:=gb130) kA hb);have n1_:=Am (blk_below (g:=gb131) kA hb);have n2_:=Am (blk_below (g:=gb132) kA hb);have n3_:=Am (below_step bA hb);clear BK130 BK131 BK132 HB;have BK130:=n0_;have BK131:=n1_;have BK132:=n2_;have HB:=n3_;clear n0_ n1_ n2_ n3_;(try clear hb);have hcz30_0 : w29.cell? ⟨gb130,0,none⟩ = some (.int .u64 a0_0):=(blk_cell BK130.out 0).trans rfl;have hcz30_1 : w29.cell? ⟨gb130,1,none⟩ = some (.int .u64 a0_1):=(blk_cell BK130.out 1).trans rfl;have hfz30_0:=blk_frozen BK130.out 0;have hfz30_1:=blk_frozen BK130.out 1;have hcz31_0 : w29.cell? ⟨gb131,0,none⟩ = some (.int .u64 a1_0):=(blk_cell BK131.out 0).trans rfl;have hcz31_1 : w29.cell? ⟨gb131,1,none⟩ = some (.int .u64 a1_1):=(blk_cell BK131.out 1).trans rfl;have hfz31_0:=blk_frozen BK131.out 0;have hfz31_1:=blk_frozen BK131.out 1) | ((with_reducible refine gate_callee (f:=72) rfl ?_);refine goesX_ (some 23) rfl rfl #[.int .u64 a0_0,.int .u64 a1_0,.int .u64 t134] rfl aA ?_;(with_reducible refine (bits_Add64.calls a0_0 a1_0 t134 t135 t136 _ A4.out).mono ?_);rintro e w32 ⟨rfl,hb⟩;refine ⟨_,rfl,?_⟩;have n0_:=Am (blk_below (g:=gb130) kA hb);have n1_:=Am (blk_below (g:=gb131) kA hb);have n2_:=Am (blk_below (g:=gb132) kA hb);have n3_:=Am (below_step bA hb);clear BK130 BK131 BK132 HB;have BK130:=n0_;have BK131:=n1_;have BK132:=n2_;have HB:=n3_;clear n0_ n1_ n2_ n3_;(try clear hb);have hcz33_0 : w32.cell? ⟨gb132,0,none⟩ = some (.int .u64 0):=(blk_cell BK132.out 0).trans rfl;have hcz33_1 : w32.cell? ⟨gb132,1,none⟩ = some (.int .u64 0):=(blk_cell BK132.out 1).trans rfl;have hfz33_0:=blk_frozen BK132.out 0;have hfz33_1:=blk_frozen BK132.out 1))
  refine bodyPost_ret (results_ct rfl _ _ gb132 76 #[.int .u64 t135,.int .u64 t133] (0,0) _ rfl (by (with_reducible repeat (first | refine b1 ?_ _ | refine b2 ?_ | refine b3 ?_ _));refine blk_put (cs:=#[.int .u64 t135,.int .u64 0]) ?_ 1 _ rfl;(with_reducible repeat (first | refine b1 ?_ _ | refine b2 ?_ | refine b3 ?_ _));refine blk_put (cs:=#[.int .u64 0,.int .u64 0]) ?_ 0 _ rfl;exact kA) Tryd.underlying76 rfl (by kernel_rfl)) rfl ?_
  exact ⟨by first | rfl | (simp [errW_none,errW_some] <;> rfl) | (simp [*,errW_none,errW_some] <;> rfl),bA⟩

def bits_Mul64.f (a0 : Int) (a1 : Int) : Option (Int × Int):=some (IntKind.u64.wrap ((IntKind.u64.wrap ((IntKind.u64.wrap ((a0 / 4294967296) * (a1 / 4294967296))) + ((IntKind.u64.wrap ((IntKind.u64.wrap ((a0 / 4294967296) * (Go.bits .and .u64 a1 4294967295))) + ((IntKind.u64.wrap ((Go.bits .and .u64 a0 4294967295) * (Go.bits .and .u64 a1 4294967295))) / 4294967296))) / 4294967296))) + ((IntKind.u64.wrap ((Go.bits .and .u64 (IntKind.u64.wrap ((IntKind.u64.wrap ((a0 / 4294967296) * (Go.bits .and .u64 a1 4294967295))) + ((IntKind.u64.wrap ((Go.bits .and .u64 a0 4294967295) * (Go.bits .and .u64 a1 4294967295))) / 4294967296))) 4294967295) + (IntKind.u64.wrap ((Go.bits .and .u64 a0 4294967295) * (a1 / 4294967296))))) / 4294967296)),IntKind.u64.wrap (a0 * a1))
set_option maxHeartbeats 8000000 in
set_option maxRecDepth 100000 in
theorem bits_Mul64.calls (a0 : Int) (a1 : Int) (r1 : Int) (r2 : Int) (w : World) (h : bits_Mul64.f a0 a1 = some (r1,r2)) :
  Calls Tryd.prog 70 #[.int .u64 a0,.int .u64 a1] w fun e w' => e = .returned (.tuple #[.int .u64 r1,.int .u64 r2]) ∧ Drawn0 w w':=by
 have H : (some (IntKind.u64.wrap ((IntKind.u64.wrap ((IntKind.u64.wrap ((a0 / 4294967296) * (a1 / 4294967296))) + ((IntKind.u64.wrap ((IntKind.u64.wrap ((a0 / 4294967296) * (Go.bits .and .u64 a1 4294967295))) + ((IntKind.u64.wrap ((Go.bits .and .u64 a0 4294967295) * (Go.bits .and .u64 a1 4294967295))) / 4294967296))) / 4294967296))) + ((IntKind.u64.wrap ((Go.bits .and .u64 (IntKind.u64.wrap ((IntKind.u64.wrap ((a0 / 4294967296) * (Go.bits .and .u64 a1 4294967295))) + ((IntKind.u64.wrap ((Go.bits .and .u64 a0 4294967295) * (Go.bits .and .u64 a1 4294967295))) / 4294967296))) 4294967295) + (IntKind.u64.wrap ((Go.bits .and .u64 a0 4294967295) * (a1 / 4294967296))))) / 4294967296)),IntKind.u64.wrap (a0 * a1))) = some (r1,r2):=h
 clear h
 simp only [Option.some.injEq,Prod.mk.injEq] at H
 obtain ⟨rfl,rfl⟩:=H
 go_enter Tryd.func70,Tryd.ntmps70
 go_wp2
 go_ret2
 exact ⟨by first | rfl | (simp;done) | (simp [*];done),by repeat (first | exact Drawn0.refl _ | apply Drawn0.step)⟩

def wide_Mul.f (a0 : Int) (a1 : Int) : Option (Int × Int):=(bits_Mul64.f a0 a1).bind fun bt140 => (some (bt140.1,bt140.2))
set_option maxHeartbeats 8000000 in
set_option maxRecDepth 100000 in
theorem wide_Mul.calls (a0 : Int) (a1 : Int) (r1 : Int) (r2 : Int) (w : World) (h : wide_Mul.f a0 a1 = some (r1,r2)) :
  Calls Tryd.prog 42 #[.int .u64 a0,.int .u64 a1] w fun e w' => e = .returned (.agg #[.int .u64 r1,.int .u64 r2]) ∧ Below w.heap.size w w':=by
 have hu76:=Tryd.underlying76
 have HB:=Am (Below.refl w.heap.size w)
 have H : ((bits_Mul64.f a0 a1).bind fun bt140 => (some (bt140.1,bt140.2))) = some (r1,r2):=h
 clear h;replace H:=Option.bind_eq_some_iff.mp H;obtain ⟨⟨t140,t141⟩,A30,H⟩:=H;replace H : (some (t140,t141)) = some (r1,r2):=H;have A3:=Aside0.mk A30;clear A30
 simp only [Option.some.injEq,Prod.mk.injEq] at H
 obtain ⟨rfl,rfl⟩:=H
 go_enter Tryd.func42,Tryd.ntmps42
 go_wp2_with (first | ((with_reducible refine gate_dst (N:=4) rfl ?_);refine bxA 4 #[.int .u64 0,.int .u64 0] 76 ?_;intro gb139 hg w4 hbox hb;have n0_:=Am (below_step bA hb);have n1_:=Am (hbox);have n2_:=Am (gwA hg bA);have n3_:=Am (gwA hg bA);clear HB;have HB:=n0_;have BK139:=n1_;have GW139:=n2_;have GE139:=n3_;clear n0_ n1_ n2_ n3_ hb hbox hg) | ((with_reducible refine gate_callee (f:=70) rfl ?_);refine goesL_ (some 10) rfl rfl Tryd.func70 (by kernel_rfl) rfl #[.int .u64 a0,.int .u64 a1] rfl aA ?_;(with_reducible refine (bits_Mul64.calls a0 a1 t140 t141 _ A3.out).mono ?_);rintro e w' ⟨rfl,⟨nd,rfl⟩⟩;refine ⟨_,rfl,?_⟩;(try (rw [drewN_self w4];generalize hq_ : World.drewN w4 _ = w4;have n0_ : Aside0 (w4.heap[gb139]? = some (.cells #[.int .u64 0,.int .u64 0] 76 (0,0))):=⟨by rw [← hq_];exact kA⟩;have n1_ : Aside0 (Below w.heap.size w w4):=⟨by rw [← hq_];exact bA⟩;clear BK139 HB hq_;have BK139:=n0_;have HB:=n1_;clear n0_ n1_));have hcz5_0 : w4.cell? ⟨gb139,0,none⟩ = some (.int .u64 0):=(blk_cell BK139.out 0).trans rfl;have hcz5_1 : w4.cell? ⟨gb139,1,none⟩ = some (.int .u64 0):=(blk_cell BK139.out 1).trans rfl;have hfz5_0:=blk_frozen BK139.out 0;have hfz5_1:=blk_frozen BK139.out 1))
 refine bodyPost_ret (results_cell_row rfl _ _ gb139 76 #[.int .u64 t140,.int .u64 t141] (0,0) _ rfl (by (with_reducible repeat (first | refine b1 ?_ _ | refine b2 ?_ | refine b3 ?_ _));refine blk_put (cs:=#[.int .u64 t140,.int .u64 0]) ?_ 1 _ rfl;(with_reducible repeat (first | refine b1 ?_ _ | refine b2 ?_ | refine b3 ?_ _));refine blk_put (cs:=#[.int .u64 0,.int .u64 0]) ?_ 0 _ rfl;exact kA) Tryd.underlying76 rfl (by kernel_rfl)) rfl ?_
 exact ⟨by first | rfl | (simp [errW_none,errW_some] <;> rfl) | (simp [*,errW_none,errW_some] <;> rfl),bA⟩

end Go.Proofs.YtbhijfbjdbjpbaaDoor.GSH
namespace Go.Proofs.YtbhijfbjdbjpbaaDoor.Q
open Go.RowKit Go.Proofs.YtbhijfbjdbjpbaaDoor.GSH Go.Proofs.YtbhijfbjdbjpbaaDoorW.PrintWords Go.Proofs.YtbhijfbjdbjpbaaDoorW.PrintLast Go.Proofs.YtbhijfbjdbjpbaaDoorW.PrintMore
theorem add64 {a b c : Int} (ha : U a) (hb : U b) (hc : 0 ≤ c) (hc1 : c ≤ 1) : bits_Add64.f a b c = some ((a + b + c) % 18446744073709551616,(a + b + c) / 18446744073709551616):=by
  unfold bits_Add64.f
  rw [if_pos ⟨ha.1,hb.1,hc,hc1⟩]
theorem wadd {ah al bh bl : Int} (h1 : U ah) (h2 : U al) (h3 : U bh) (h4 : U bl) : wide_Add.f ah al bh bl = some (addV (V ah al) (V bh bl)):=by
  unfold wide_Add.f wide_greatest.f addV V
  rw [add64 h2 h4 (by omega) (by omega)]
  simp only [Option.bind_some]
  obtain ⟨h1a,h1b⟩:=h1;obtain ⟨h2a,h2b⟩:=h2;obtain ⟨h3a,h3b⟩:=h3;obtain ⟨h4a,h4b⟩:=h4
  rw [add64 ⟨h1a,h1b⟩ ⟨h3a,h3b⟩ (by omega) (by omega)]
  simp only [Option.bind_some]
  by_cases hc : ah * 18446744073709551616 + al + (bh * 18446744073709551616 + bl) < 340282366920938463463374607431768211456
  · rw [if_pos hc,if_neg (by omega)]
    congr 2
    · omega
    · congr 1
      omega
  · rw [if_neg hc,if_pos (by omega)]
end Go.Proofs.YtbhijfbjdbjpbaaDoor.Q
namespace Go.Proofs.YtbhijfbjdbjpbaaDoor.Q
/-- A guess at a digit of a quotient (base 2^32),too large by few. -/
structure Est (y y1 y0 u n q r : Int) : Prop where
  hy : y = y1 * 4294967296 + y0
  h1 : 2147483648 ≤ y1
  h1' : y1 < 4294967296
  h0 : 0 ≤ y0
  h0' : y0 < 4294967296
  hu : 0 ≤ u
  hu' : u < y
  hn : 0 ≤ n
  hn' : n < 4294967296
  hq : q * y1 + r = u
  hr : 0 ≤ r
  hr' : r < 4294967296
  q0 : 0 ≤ q
  q1 : q ≤ 4294967297
  le : (u * 4294967296 + n) / y ≤ q
theorem Est.mul {y y1 y0 u n q r : Int} (h : Est y y1 y0 u n q r) (c : Int) : c * y = c * y1 * 4294967296 + c * y0:=by
  rw [h.hy,Int.mul_add,Int.mul_assoc]
theorem Est.pos {y y1 y0 u n q r : Int} (h : Est y y1 y0 u n q r) : 0 < y:=by
  have:=h.hy;have:=h.h1;have:=h.h0;omega
theorem Est.small {y y1 y0 u n q r : Int} (h : Est y y1 y0 u n q r) : (u * 4294967296 + n) / y < 4294967296:=by
  rw [Int.ediv_lt_iff_lt_mul h.pos]
  have:=h.hu';have:=h.hn';have:=h.hn;have:=h.hu
  omega
theorem Est.qy0 {y y1 y0 u n q r : Int} (h : Est y y1 y0 u n q r) : 0 ≤ q * y0:=Int.mul_nonneg h.q0 h.h0
theorem Est.stop {y y1 y0 u n q r : Int} (h : Est y y1 y0 u n q r) (c : ¬ q * y0 > 4294967296 * r + n) : q = (u * 4294967296 + n) / y:=by
  refine Int.le_antisymm ?_ h.le
  rw [Int.le_ediv_iff_mul_le h.pos,h.mul q]
  have:=h.hq
  omega
theorem Est.more {y y1 y0 u n q r : Int} (h : Est y y1 y0 u n q r) (c : q ≥ 4294967296 ∨ q * y0 > 4294967296 * r + n) : (u * 4294967296 + n) / y ≤ q - 1:=by
  rcases c with c | c
  · have:=h.small
    omega
  · have : (u * 4294967296 + n) / y < q:=by
      rw [Int.ediv_lt_iff_lt_mul h.pos,h.mul q]
      have:=h.hq
      omega
    omega
theorem Est.q_pos {y y1 y0 u n q r : Int} (h : Est y y1 y0 u n q r) (c : q ≥ 4294967296 ∨ q * y0 > 4294967296 * r + n) : 1 ≤ q:=by
  have h1:=h.more c
  have : 0 ≤ (u * 4294967296 + n) / y:=Int.ediv_nonneg (by have:=h.hu;have:=h.hn;omega) (Int.le_of_lt h.pos)
  omega
theorem Est.next {y y1 y0 u n q r : Int} (h : Est y y1 y0 u n q r) (c : q ≥ 4294967296 ∨ q * y0 > 4294967296 * r + n) (hr : r + y1 < 4294967296) : Est y y1 y0 u n (q - 1) (r + y1) where
  hy:=h.hy
  h1:=h.h1
  h1':=h.h1'
  h0:=h.h0
  h0':=h.h0'
  hu:=h.hu
  hu':=h.hu'
  hn:=h.hn
  hn':=h.hn'
  hq:=by have:=h.hq;rw [Int.sub_mul];omega
  hr:=by have:=h.hr;have:=h.h1;omega
  hr':=hr
  q0:=by have:=h.q_pos c;omega
  q1:=by have:=h.q1;omega
  le:=h.more c
theorem Est.last {y y1 y0 u n q r : Int} (h : Est y y1 y0 u n q r) (c : q ≥ 4294967296 ∨ q * y0 > 4294967296 * r + n) (hr : r + y1 ≥ 4294967296) : q - 1 = (u * 4294967296 + n) / y:=by
  refine Int.le_antisymm ?_ (h.more c)
  rw [Int.le_ediv_iff_mul_le h.pos,h.mul (q - 1)]
  have e:=h.hq
  have hp:=h.q_pos c
  have b1 : (q - 1) * y0 ≤ 4294967296 * y0:=Int.mul_le_mul_of_nonneg_right (by have:=h.q1;omega) h.h0
  have:=h.h0'
  have:=h.hn
  rw [Int.sub_mul q 1 y1]
  omega
theorem Est.start {y y1 y0 u n : Int} (hy : y = y1 * 4294967296 + y0) (h1 : 2147483648 ≤ y1) (h1' : y1 < 4294967296) (h0 : 0 ≤ y0) (h0' : y0 < 4294967296) (hu : 0 ≤ u) (hu' : u < y) (hn : 0 ≤ n) (hn' : n < 4294967296) :
    Est y y1 y0 u n (u / y1) (u - u / y1 * y1):=by
  have e:=Int.mul_ediv_add_emod u y1
  rw [Int.mul_comm] at e
  have m0:=Int.emod_nonneg u (show y1 ≠ 0 by omega)
  have m1:=Int.emod_lt_of_pos u (show 0 < y1 by omega)
  have q0 : 0 ≤ u / y1:=Int.ediv_nonneg hu (by omega)
  refine ⟨hy,h1,h1',h0,h0',hu,hu',hn,hn',by omega,by omega,by omega,q0,?_,?_⟩
  · have : u / y1 < 4294967298:=by
      rw [Int.ediv_lt_iff_lt_mul (by omega)]
      omega
    omega
  · have : (u * 4294967296 + n) / y < u / y1 + 1:=by
      rw [Int.ediv_lt_iff_lt_mul (by omega),hy,Int.mul_add,← Int.mul_assoc]
      simp only [Int.add_mul]
      have : 0 ≤ u / y1 * y0:=Int.mul_nonneg q0 h0
      omega
    omega
end Go.Proofs.YtbhijfbjdbjpbaaDoor.Q
namespace Go.Proofs.YtbhijfbjdbjpbaaDoor.Q
open Go.RowKit Go.Proofs.YtbhijfbjdbjpbaaDoorW.PrintWords Go.Proofs.YtbhijfbjdbjpbaaDoorW.PrintLast Go.Proofs.YtbhijfbjdbjpbaaDoorW.PrintMore
theorem pow_bd (n : Nat) (h : n ≤ 64) : (2 : Int) ^ n ≤ 18446744073709551616:=by
  have : (2 : Nat) ^ n ≤ 2 ^ 64:=Nat.pow_le_pow_right (by decide) h
  have h2 : ((2 ^ n : Nat) : Int) ≤ ((2 ^ 64 : Nat) : Int):=by exact_mod_cast this
  simpa using h2
theorem pow_pos_ (n : Nat) : (0 : Int) < 2 ^ n:=by
  have : 0 < 2 ^ n:=Nat.two_pow_pos n
  exact_mod_cast this
theorem pow_split (n : Nat) (h : n ≤ 64) : (2 : Int) ^ n * 2 ^ (64 - n) = 18446744073709551616:=by
  rw [← Int.pow_add,show n + (64 - n) = 64 by omega];rfl
theorem emod_pow {x : Int} (n : Nat) (h : n ≤ 64) : (x * 2 ^ n) % 18446744073709551616 % 2 ^ n = 0:=by
  rw [← pow_split n h,Int.emod_emod_of_dvd _ (Int.dvd_mul_right _ _)]
  simp
theorem div_lt_pow {x : Int} (n : Nat) (h : n ≤ 64) (hx : U x) : 0 ≤ x / 2 ^ (64 - n) ∧ x / 2 ^ (64 - n) < 2 ^ n:=by
  refine ⟨Int.ediv_nonneg hx.1 (Int.le_of_lt (pow_pos_ _)),?_⟩
  apply Int.ediv_lt_of_lt_mul (pow_pos_ _)
  rw [pow_split n h]
  exact hx.2
theorem umod (x : Int) : U (x % 18446744073709551616):=⟨by omega,by omega⟩
/-- What a shift to the left by fewer than 64 bits comes to. -/
def shlV (h l : Int) (n : Nat) : Int × Int:=((h * 2 ^ n) % 18446744073709551616 + l / 2 ^ (64 - n),(l * 2 ^ n) % 18446744073709551616)
def shrV (h l : Int) (n : Nat) : Int × Int:=(h / 2 ^ n,(h * 2 ^ (64 - n)) % 18446744073709551616 + l / 2 ^ n)
end Go.Proofs.YtbhijfbjdbjpbaaDoor.Q
namespace Go.Proofs.YtbhijfbjdbjpbaaDoor.GSH
open Go.RowKit Go.Proofs.YtbhijfbjdbjpbaaDoorW.PrintWords Go.Proofs.YtbhijfbjdbjpbaaDoorW.PrintLast Go.Proofs.YtbhijfbjdbjpbaaDoorW.PrintMore
attribute [local go_sem] max2_int min2_int max_two min_two max_three min_three max_four min_four   -- for this text's walks alone
set_option linter.unusedVariables false
set_option linter.unusedSimpArgs false
def wide_Times.f (a0_0 : Int) (a0_1 : Int) (a1 : Int) : Option (Int × Int × Bool):=(wide_Mul.f a0_1 a1).bind fun bt144 => ((wide_Mul.f a0_0 a1).bind fun bt146 => (if bt146.1 > 0 then ((wide_greatest.f).bind fun bt150 => (some (bt150.1,bt150.2,false))) else ((wide_Add.f bt144.1 bt144.2 bt146.2 0).bind fun bt152 => (some (bt152.1,bt152.2.1,bt152.2.2)))))
def wide_Times.T1 : Bool × List (List Nat × List Nat):=(true,[([],[]),([0],[0]),([],[]),([1,2],[1,2]),([],[]),([4],[4]),([],[]),([5,6,3],[5,6]),([],[]),([],[]),([8,3,7,0,1,2,3,8,9],[3,8]),([9,7,10,0,1,2,3,4,5,6,7,8,9,10],[7,9])])
def wide_Times.B1 : List Nat:=[0,1,0,7,0,16,0,127,0,0,1023,2047]
theorem wide_Times.tab1 : rtab .any (opsOf Tryd.f66 1) = wide_Times.T1:=by kernel_rfl
theorem wide_Times.bits1 : waitsOk wide_Times.T1.2 wide_Times.B1 = true:=by kernel_rfl
set_option maxHeartbeats 8000000 in
set_option maxRecDepth 100000 in
theorem wide_Times.calls (a0_0 : Int) (a0_1 : Int) (a1 : Int) (r1 : Int) (r2 : Int) (r3 : Bool) (w : World) (h : wide_Times.f a0_0 a0_1 a1 = some (r1,r2,r3)) :
  Calls Tryd.prog 66 #[.agg #[.int .u64 a0_0,.int .u64 a0_1],.int .u64 a1] w fun e w' => e = .returned (.tuple #[.agg #[.int .u64 r1,.int .u64 r2],.bool r3]) ∧ Below w.heap.size w w':=by
 have hu76:=Tryd.underlying76
 have HB:=Am (Below.refl w.heap.size w)
 have H : ((wide_Mul.f a0_1 a1).bind fun bt144 => ((wide_Mul.f a0_0 a1).bind fun bt146 => (if bt146.1 > 0 then ((wide_greatest.f).bind fun bt150 => (some (bt150.1,bt150.2,false))) else ((wide_Add.f bt144.1 bt144.2 bt146.2 0).bind fun bt152 => (some (bt152.1,bt152.2.1,bt152.2.2)))))) = some (r1,r2,r3):=h
 clear h;replace H:=Option.bind_eq_some_iff.mp H;obtain ⟨⟨t144,t145⟩,A30,H⟩:=H;replace H : ((wide_Mul.f a0_0 a1).bind fun bt146 => (if bt146.1 > 0 then ((wide_greatest.f).bind fun bt150 => (some (bt150.1,bt150.2,false))) else ((wide_Add.f t144 t145 bt146.2 0).bind fun bt152 => (some (bt152.1,bt152.2.1,bt152.2.2))))) = some (r1,r2,r3):=H;have A3:=Aside0.mk A30;clear A30;replace H:=Option.bind_eq_some_iff.mp H;obtain ⟨⟨t146,t147⟩,A40,H⟩:=H;replace H : (if t146 > 0 then ((wide_greatest.f).bind fun bt150 => (some (bt150.1,bt150.2,false))) else ((wide_Add.f t144 t145 t147 0).bind fun bt152 => (some (bt152.1,bt152.2.1,bt152.2.2)))) = some (r1,r2,r3):=H;have A4:=Aside0.mk A40;clear A40
 go_enter Tryd.func66,Tryd.ntmps66
 try go_wp2_with (first | ((with_reducible refine gate_dst (N:=2) rfl ?_);refine bxA 2 #[.int .u64 a0_0,.int .u64 a0_1] 76 ?_;intro gb142 hg w7 hbox hb;have n0_:=Am (below_step bA hb);have n1_:=Am (hbox);have n2_:=Am (gwA hg bA);have n3_:=Am (gwA hg bA);clear HB;have HB:=n0_;have BK142:=n1_;have GW142:=n2_;have GE142:=n3_;clear n0_ n1_ n2_ n3_ hb hbox hg) | ((with_reducible refine gate_dst (N:=4) rfl ?_);refine bxA 4 #[.int .u64 0,.int .u64 0] 76 ?_;intro gb143 hg w8 hbox hb;have n0_:=Am (blk_below (g:=gb142) kA hb);have n1_:=Am (below_step bA hb);have n2_:=Am (hbox);have n3_:=Am (gwA hg bA);have n4_:=Am (gwA hg bA);have n5_:=Am (neA (g:=gb142) hg kA);have n6_:=Am (neB (g:=gb142) hg kA);clear BK142 HB;have BK142:=n0_;have HB:=n1_;have BK143:=n2_;have GW143:=n3_;have GE143:=n4_;have NB142_143:=n5_;have NB143_142:=n6_;clear n0_ n1_ n2_ n3_ n4_ n5_ n6_ hb hbox hg))
 have n0_:=Am (blk_drew BK142.out);have n1_:=Am (blk_drew BK143.out);have n2_:=Am (below_drew1 HB.out);clear BK142 BK143 HB;have BK142:=n0_;have BK143:=n1_;have HB:=n2_;clear n0_ n1_ n2_
 refine start_ (n:=12) (S:=fun w' => w'.cell? ⟨gb142,0,none⟩ = some (.int .u64 a0_0) ∧ w'.cell? ⟨gb142,1,none⟩ = some (.int .u64 a0_1)) (ds:=[]) #[nn,nn,nn,nn,nn,nn,nn,nn,nn,nn,nn,nn] (by kernel_rfl) rfl rfl ⟨(blk_cell BK142.out 0).trans rfl,(blk_cell BK142.out 1).trans rfl⟩ (fun hHeld => ?_);refine with_tabW wide_Times.tab1 wide_Times.bits1 (fun HT_ HW_ => ?_)
 generalize w8.drew = w9 at BK142 BK143 HB hHeld ⊢
 refine pure_ (i:=0) (N:=some 8) (v:=?_) (a':=?_) #[yy,nn,nn,nn,nn,nn,nn,nn,nn,nn,nn,nn] rfl rfl (any_of HT_.out (by kernel_rfl)) (fun _ _ _ h => h) (Or.inl ⟨by rfl,?_⟩) ?_ ?_
 rotate_left
 ·intro w'
  go_simp;with_reducible rfl
 rotate_left
 ·simp only [NR]
  rfl
 refine pure_ (i:=2) (N:=some 10) (v:=?_) (a':=?_) #[yy,nn,yy,nn,nn,nn,nn,nn,nn,nn,nn,nn] rfl rfl (any_of HT_.out (by kernel_rfl)) (fun _ _ _ h => h) (Or.inl ⟨by rfl,?_⟩) ?_ ?_
 rotate_left
 ·intro w'
  go_simp;with_reducible rfl
 rotate_left
 ·simp only [NR]
  rfl
 refine pure_ (i:=4) (N:=some 12) (v:=?_) (a':=?_) #[yy,nn,yy,nn,yy,nn,nn,nn,nn,nn,nn,nn] rfl rfl (any_of HT_.out (by kernel_rfl)) (fun _ _ _ h => h) (Or.inl ⟨by rfl,?_⟩) ?_ ?_
 rotate_left
 ·intro w'
  go_simp;with_reducible rfl
 rotate_left
 ·simp only [NR]
  rfl
 refine pure_ (i:=6) (N:=some 14) (v:=?_) (a':=?_) #[yy,nn,yy,nn,yy,nn,yy,nn,nn,nn,nn,nn] rfl rfl (any_of HT_.out (by kernel_rfl)) (fun _ _ _ h => h) (Or.inl ⟨by rfl,?_⟩) ?_ ?_
 rotate_left
 ·intro w'
  go_simp;with_reducible rfl
 rotate_left
 ·simp only [NR]
  rfl
 refine take_ (i:=1) (N:=some 9) (v:=?_) (a':=?_) #[yy,yy,yy,nn,yy,nn,yy,nn,nn,nn,nn,nn] rfl rfl (take_ofW HT_.out HW_.out (by kernel_rfl)) (fun _ _ _ h => h) (Or.inl ⟨by rfl,?_⟩) hHeld ?_ ?_
 rotate_left
 ·rintro w' ⟨s0,s1⟩
  go_simp;with_reducible rfl
 rotate_left
 ·simp only [NR]
  rfl
 refine take_ (i:=5) (N:=some 13) (v:=?_) (a':=?_) #[yy,yy,yy,nn,yy,yy,yy,nn,nn,nn,nn,nn] rfl rfl (take_ofW HT_.out HW_.out (by kernel_rfl)) (fun _ _ _ h => h) (Or.inl ⟨by rfl,?_⟩) hHeld ?_ ?_
 rotate_left
 ·rintro w' ⟨s0,s1⟩
  go_simp;with_reducible rfl
 rotate_left
 ·simp only [NR]
  rfl
 refine join_ (σ:=Nat × Nat) 2 #[yy,yy,yy,yy,yy,yy,yy,yy,yy,yy,nn,nn] (fun s_ => [(11,.agg #[.int .u64 t144,.int .u64 t145]),(15,.agg #[.int .u64 t146,.int .u64 t147]),(6,.pointer (some ⟨s_.1,0,none⟩)),(7,.pointer (some ⟨s_.2,0,none⟩))]) (fun s_ w' => (w'.cell? ⟨gb142,0,none⟩ = some (.int .u64 a0_0) ∧ w'.cell? ⟨gb142,1,none⟩ = some (.int .u64 a0_1)) ∧ (w'.heap[gb142]? = some (.cells #[.int .u64 a0_0,.int .u64 a0_1] 76 (0,0))) ∧ (w'.heap[gb143]? = some (.cells #[.int .u64 0,.int .u64 0] 76 (0,0))) ∧ (w'.heap[s_.1]? = some (.cells #[.int .u64 0,.int .u64 0] 76 (0,0))) ∧ (w'.heap[s_.2]? = some (.cells #[.int .u64 0,.int .u64 0] 76 (0,0))) ∧ (w.heap.size ≤ s_.1) ∧ (w.heap.size ≤ s_.1) ∧ (gb142 ≠ s_.1) ∧ (s_.1 ≠ gb142) ∧ (gb143 ≠ s_.1) ∧ (s_.1 ≠ gb143) ∧ (s_.2 ≠ s_.1) ∧ (s_.1 ≠ s_.2) ∧ (w.heap.size ≤ s_.2) ∧ (w.heap.size ≤ s_.2) ∧ (gb142 ≠ s_.2) ∧ (s_.2 ≠ gb142) ∧ (gb143 ≠ s_.2) ∧ (s_.2 ≠ gb143) ∧ (Below w.heap.size w w')) ?_ ?_
 rotate_left
 ·intro hJ3_7_8_9
  refine join_ (σ:=Nat) 3 #[yy,yy,yy,yy,yy,yy,yy,yy,yy,nn,nn,nn] (fun s_ => [(11,.agg #[.int .u64 t144,.int .u64 t145]),(15,.agg #[.int .u64 t146,.int .u64 t147]),(6,.pointer (some ⟨s_,0,none⟩))]) (fun s_ w' => (w'.cell? ⟨gb142,0,none⟩ = some (.int .u64 a0_0) ∧ w'.cell? ⟨gb142,1,none⟩ = some (.int .u64 a0_1)) ∧ (w'.heap[gb142]? = some (.cells #[.int .u64 a0_0,.int .u64 a0_1] 76 (0,0))) ∧ (w'.heap[gb143]? = some (.cells #[.int .u64 0,.int .u64 0] 76 (0,0))) ∧ (w'.heap[s_]? = some (.cells #[.int .u64 0,.int .u64 0] 76 (0,0))) ∧ (w.heap.size ≤ s_) ∧ (w.heap.size ≤ s_) ∧ (gb142 ≠ s_) ∧ (s_ ≠ gb142) ∧ (gb143 ≠ s_) ∧ (s_ ≠ gb143) ∧ (Below w.heap.size w w')) ?_ ?_
  rotate_left
  ·intro hJ3_7_8
   refine join_ (σ:=Nat) 3 #[yy,yy,yy,yy,yy,yy,yy,yy,nn,yy,nn,nn] (fun s_ => [(11,.agg #[.int .u64 t144,.int .u64 t145]),(15,.agg #[.int .u64 t146,.int .u64 t147]),(7,.pointer (some ⟨s_,0,none⟩))]) (fun s_ w' => (w'.cell? ⟨gb142,0,none⟩ = some (.int .u64 a0_0) ∧ w'.cell? ⟨gb142,1,none⟩ = some (.int .u64 a0_1)) ∧ (w'.heap[gb142]? = some (.cells #[.int .u64 a0_0,.int .u64 a0_1] 76 (0,0))) ∧ (w'.heap[gb143]? = some (.cells #[.int .u64 0,.int .u64 0] 76 (0,0))) ∧ (w'.heap[s_]? = some (.cells #[.int .u64 0,.int .u64 0] 76 (0,0))) ∧ (w.heap.size ≤ s_) ∧ (w.heap.size ≤ s_) ∧ (gb142 ≠ s_) ∧ (s_ ≠ gb142) ∧ (gb143 ≠ s_) ∧ (s_ ≠ gb143) ∧ (Below w.heap.size w w')) ?_ ?_
   rotate_left
   ·intro hJ3_7_9
    refine join_ (σ:=Nat × Nat) 3 #[yy,yy,yy,yy,yy,yy,yy,nn,yy,yy,nn,nn] (fun s_ => [(11,.agg #[.int .u64 t144,.int .u64 t145]),(6,.pointer (some ⟨s_.1,0,none⟩)),(7,.pointer (some ⟨s_.2,0,none⟩))]) (fun s_ w' => (w'.cell? ⟨gb142,0,none⟩ = some (.int .u64 a0_0) ∧ w'.cell? ⟨gb142,1,none⟩ = some (.int .u64 a0_1)) ∧ (w'.heap[gb142]? = some (.cells #[.int .u64 a0_0,.int .u64 a0_1] 76 (0,0))) ∧ (w'.heap[gb143]? = some (.cells #[.int .u64 0,.int .u64 0] 76 (0,0))) ∧ (w'.heap[s_.1]? = some (.cells #[.int .u64 0,.int .u64 0] 76 (0,0))) ∧ (w'.heap[s_.2]? = some (.cells #[.int .u64 0,.int .u64 0] 76 (0,0))) ∧ (w.heap.size ≤ s_.1) ∧ (w.heap.size ≤ s_.1) ∧ (gb142 ≠ s_.1) ∧ (s_.1 ≠ gb142) ∧ (gb143 ≠ s_.1) ∧ (s_.1 ≠ gb143) ∧ (s_.2 ≠ s_.1) ∧ (s_.1 ≠ s_.2) ∧ (w.heap.size ≤ s_.2) ∧ (w.heap.size ≤ s_.2) ∧ (gb142 ≠ s_.2) ∧ (s_.2 ≠ gb142) ∧ (gb143 ≠ s_.2) ∧ (s_.2 ≠ gb143) ∧ (Below w.heap.size w w')) ?_ ?_
    rotate_left
    ·intro hJ3_8_9
     refine join_ (σ:=Unit) 4 #[yy,yy,yy,yy,yy,yy,yy,yy,nn,nn,nn,nn] (fun s_ => [(11,.agg #[.int .u64 t144,.int .u64 t145]),(15,.agg #[.int .u64 t146,.int .u64 t147])]) (fun s_ w' => (w'.cell? ⟨gb142,0,none⟩ = some (.int .u64 a0_0) ∧ w'.cell? ⟨gb142,1,none⟩ = some (.int .u64 a0_1)) ∧ (w'.heap[gb142]? = some (.cells #[.int .u64 a0_0,.int .u64 a0_1] 76 (0,0))) ∧ (w'.heap[gb143]? = some (.cells #[.int .u64 0,.int .u64 0] 76 (0,0))) ∧ (Below w.heap.size w w')) ?_ ?_
     rotate_left
     ·intro hJ3_7
      refine join_ (σ:=Nat) 4 #[yy,yy,yy,yy,yy,yy,yy,nn,yy,nn,nn,nn] (fun s_ => [(11,.agg #[.int .u64 t144,.int .u64 t145]),(6,.pointer (some ⟨s_,0,none⟩))]) (fun s_ w' => (w'.cell? ⟨gb142,0,none⟩ = some (.int .u64 a0_0) ∧ w'.cell? ⟨gb142,1,none⟩ = some (.int .u64 a0_1)) ∧ (w'.heap[gb142]? = some (.cells #[.int .u64 a0_0,.int .u64 a0_1] 76 (0,0))) ∧ (w'.heap[gb143]? = some (.cells #[.int .u64 0,.int .u64 0] 76 (0,0))) ∧ (w'.heap[s_]? = some (.cells #[.int .u64 0,.int .u64 0] 76 (0,0))) ∧ (w.heap.size ≤ s_) ∧ (w.heap.size ≤ s_) ∧ (gb142 ≠ s_) ∧ (s_ ≠ gb142) ∧ (gb143 ≠ s_) ∧ (s_ ≠ gb143) ∧ (Below w.heap.size w w')) ?_ ?_
      rotate_left
      ·intro hJ3_8
       refine join_ (σ:=Nat) 4 #[yy,yy,yy,yy,yy,yy,yy,nn,nn,yy,nn,nn] (fun s_ => [(11,.agg #[.int .u64 t144,.int .u64 t145]),(7,.pointer (some ⟨s_,0,none⟩))]) (fun s_ w' => (w'.cell? ⟨gb142,0,none⟩ = some (.int .u64 a0_0) ∧ w'.cell? ⟨gb142,1,none⟩ = some (.int .u64 a0_1)) ∧ (w'.heap[gb142]? = some (.cells #[.int .u64 a0_0,.int .u64 a0_1] 76 (0,0))) ∧ (w'.heap[gb143]? = some (.cells #[.int .u64 0,.int .u64 0] 76 (0,0))) ∧ (w'.heap[s_]? = some (.cells #[.int .u64 0,.int .u64 0] 76 (0,0))) ∧ (w.heap.size ≤ s_) ∧ (w.heap.size ≤ s_) ∧ (gb142 ≠ s_) ∧ (s_ ≠ gb142) ∧ (gb143 ≠ s_) ∧ (s_ ≠ gb143) ∧ (Below w.heap.size w w')) ?_ ?_
       rotate_left
       ·intro hJ3_9
        refine join_ (σ:=Nat × Nat) 4 #[yy,yy,yy,nn,yy,yy,yy,nn,yy,yy,nn,nn] (fun s_ => [(6,.pointer (some ⟨s_.1,0,none⟩)),(7,.pointer (some ⟨s_.2,0,none⟩))]) (fun s_ w' => (w'.cell? ⟨gb142,0,none⟩ = some (.int .u64 a0_0) ∧ w'.cell? ⟨gb142,1,none⟩ = some (.int .u64 a0_1)) ∧ (w'.heap[gb142]? = some (.cells #[.int .u64 a0_0,.int .u64 a0_1] 76 (0,0))) ∧ (w'.heap[gb143]? = some (.cells #[.int .u64 0,.int .u64 0] 76 (0,0))) ∧ (w'.heap[s_.1]? = some (.cells #[.int .u64 0,.int .u64 0] 76 (0,0))) ∧ (w'.heap[s_.2]? = some (.cells #[.int .u64 0,.int .u64 0] 76 (0,0))) ∧ (w.heap.size ≤ s_.1) ∧ (w.heap.size ≤ s_.1) ∧ (gb142 ≠ s_.1) ∧ (s_.1 ≠ gb142) ∧ (gb143 ≠ s_.1) ∧ (s_.1 ≠ gb143) ∧ (s_.2 ≠ s_.1) ∧ (s_.1 ≠ s_.2) ∧ (w.heap.size ≤ s_.2) ∧ (w.heap.size ≤ s_.2) ∧ (gb142 ≠ s_.2) ∧ (s_.2 ≠ gb142) ∧ (gb143 ≠ s_.2) ∧ (s_.2 ≠ gb143) ∧ (Below w.heap.size w w')) ?_ ?_
        rotate_left
        ·intro hJ8_9
         refine join_ (σ:=Unit) 5 #[yy,yy,yy,yy,yy,yy,yy,nn,nn,nn,nn,nn] (fun s_ => [(11,.agg #[.int .u64 t144,.int .u64 t145])]) (fun s_ w' => (w'.cell? ⟨gb142,0,none⟩ = some (.int .u64 a0_0) ∧ w'.cell? ⟨gb142,1,none⟩ = some (.int .u64 a0_1)) ∧ (w'.heap[gb142]? = some (.cells #[.int .u64 a0_0,.int .u64 a0_1] 76 (0,0))) ∧ (w'.heap[gb143]? = some (.cells #[.int .u64 0,.int .u64 0] 76 (0,0))) ∧ (Below w.heap.size w w')) ?_ ?_
         rotate_left
         ·intro hJ3
          refine join_ (σ:=Nat) 5 #[yy,yy,yy,nn,yy,yy,yy,nn,yy,nn,nn,nn] (fun s_ => [(6,.pointer (some ⟨s_,0,none⟩))]) (fun s_ w' => (w'.cell? ⟨gb142,0,none⟩ = some (.int .u64 a0_0) ∧ w'.cell? ⟨gb142,1,none⟩ = some (.int .u64 a0_1)) ∧ (w'.heap[gb142]? = some (.cells #[.int .u64 a0_0,.int .u64 a0_1] 76 (0,0))) ∧ (w'.heap[gb143]? = some (.cells #[.int .u64 0,.int .u64 0] 76 (0,0))) ∧ (w'.heap[s_]? = some (.cells #[.int .u64 0,.int .u64 0] 76 (0,0))) ∧ (w.heap.size ≤ s_) ∧ (w.heap.size ≤ s_) ∧ (gb142 ≠ s_) ∧ (s_ ≠ gb142) ∧ (gb143 ≠ s_) ∧ (s_ ≠ gb143) ∧ (Below w.heap.size w w')) ?_ ?_
          rotate_left
          ·intro hJ8
           refine join_ (σ:=Nat) 5 #[yy,yy,yy,nn,yy,yy,yy,nn,nn,yy,nn,nn] (fun s_ => [(7,.pointer (some ⟨s_,0,none⟩))]) (fun s_ w' => (w'.cell? ⟨gb142,0,none⟩ = some (.int .u64 a0_0) ∧ w'.cell? ⟨gb142,1,none⟩ = some (.int .u64 a0_1)) ∧ (w'.heap[gb142]? = some (.cells #[.int .u64 a0_0,.int .u64 a0_1] 76 (0,0))) ∧ (w'.heap[gb143]? = some (.cells #[.int .u64 0,.int .u64 0] 76 (0,0))) ∧ (w'.heap[s_]? = some (.cells #[.int .u64 0,.int .u64 0] 76 (0,0))) ∧ (w.heap.size ≤ s_) ∧ (w.heap.size ≤ s_) ∧ (gb142 ≠ s_) ∧ (s_ ≠ gb142) ∧ (gb143 ≠ s_) ∧ (s_ ≠ gb143) ∧ (Below w.heap.size w w')) ?_ ?_
           rotate_left
           ·intro hJ9
            refine three_ (i:=3) (j:=8) (k:=9) (Ni:=some 11) (Nj:=some 6) (Nk:=some 7) #[yy,yy,yy,yy,yy,yy,yy,nn,nn,nn,nn,nn] #[yy,yy,yy,nn,yy,yy,yy,nn,yy,nn,nn,nn] #[yy,yy,yy,nn,yy,yy,yy,nn,nn,yy,nn,nn] rfl rfl rfl rfl rfl rfl (three_of HT_.out (by kernel_rfl)) (by decide) (by decide) (by decide) (fun K hK => ?_) (fun K hK => ?_) (fun K hK => ?_)
            ·skip
             refine goes_ Tryd.func42 (by kernel_rfl) rfl #[.int .u64 a0_1,.int .u64 a1] (by rfl) rfl rfl aA ?_
             with_reducible refine (wide_Mul.calls a0_1 a1 t144 t145 _ A3.out).mono ?_
             rintro e w10 ⟨rfl,hb⟩
             refine ⟨_,rfl,?_⟩;have n0_:=Am (blk_below (g:=gb142) kA hb);have n1_:=Am (blk_below (g:=gb143) kA hb);have n2_:=Am (below_step bA hb);clear BK142 BK143 HB;have BK142:=n0_;have BK143:=n1_;have HB:=n2_;clear n0_ n1_ n2_;(try clear hb)
             refine hK.out _ _ ⟨(blk_cell BK142.out 0).trans rfl,(blk_cell BK142.out 1).trans rfl⟩ (fun hHeld => ?_)
             clear hK K
             refine norm_ (a':=?_) ?_ ?_
             rotate_left
             ·show Act.put _ (some 11) _ = _
              simp only [NR]
              rfl
             exact norm_ (by first | (simp only [putAll,Act.put,List.setIfInBounds_toArray,List.set_cons_zero,List.set_cons_succ];done) | (simp only [putAll,Act.put,List.setIfInBounds_toArray,List.set_cons_zero,List.set_cons_succ];rfl)) (hJ3 () _ ⟨hHeld,kA,kA,bA⟩)
            ·skip
             refine box_step ?hg (N:=6) ?hd (cs:=#[.int .u64 0,.int .u64 0]) (t:=76) ?hr ?_;(case hd => rfl);(case hg => rfl);(case hr => first | (go_simp;done) | (go_simp;rfl))
             intro gb148 hg w10 hbox hb
             have n0_:=Am (blk_below (g:=gb142) kA hb);have n1_:=Am (blk_below (g:=gb143) kA hb);have n2_:=Am (below_step bA hb);have n3_:=Am (hbox);have n4_:=Am (gwA hg bA);have n5_:=Am (gwA hg bA);have n6_:=Am (neA (g:=gb142) hg kA);have n7_:=Am (neB (g:=gb142) hg kA);have n8_:=Am (neA (g:=gb143) hg kA);have n9_:=Am (neB (g:=gb143) hg kA);clear BK142 BK143 HB;have BK142:=n0_;have BK143:=n1_;have HB:=n2_;have BK148:=n3_;have GW148:=n4_;have GE148:=n5_;have NB142_148:=n6_;have NB148_142:=n7_;have NB143_148:=n8_;have NB148_143:=n9_;clear n0_ n1_ n2_ n3_ n4_ n5_ n6_ n7_ n8_ n9_ hb hbox hg
             refine hK.out _ _ ⟨(blk_cell BK142.out 0).trans rfl,(blk_cell BK142.out 1).trans rfl⟩ (fun hHeld => ?_)
             clear hK K
             refine norm_ (a':=?_) ?_ ?_
             rotate_left
             ·show Act.put _ (some 6) _ = _
              simp only [NR]
              rfl
             exact norm_ (by first | (simp only [putAll,Act.put,List.setIfInBounds_toArray,List.set_cons_zero,List.set_cons_succ];done) | (simp only [putAll,Act.put,List.setIfInBounds_toArray,List.set_cons_zero,List.set_cons_succ];rfl)) (hJ8 (gb148) _ ⟨hHeld,kA,kA,kA,GW148.out,GE148.out,NB142_148.out,NB148_142.out,NB143_148.out,NB148_143.out,bA⟩)
            ·skip
             refine box_step ?hg (N:=7) ?hd (cs:=#[.int .u64 0,.int .u64 0]) (t:=76) ?hr ?_;(case hd => rfl);(case hg => rfl);(case hr => first | (go_simp;done) | (go_simp;rfl))
             intro gb149 hg w10 hbox hb
             have n0_:=Am (blk_below (g:=gb142) kA hb);have n1_:=Am (blk_below (g:=gb143) kA hb);have n2_:=Am (below_step bA hb);have n3_:=Am (hbox);have n4_:=Am (gwA hg bA);have n5_:=Am (gwA hg bA);have n6_:=Am (neA (g:=gb142) hg kA);have n7_:=Am (neB (g:=gb142) hg kA);have n8_:=Am (neA (g:=gb143) hg kA);have n9_:=Am (neB (g:=gb143) hg kA);clear BK142 BK143 HB;have BK142:=n0_;have BK143:=n1_;have HB:=n2_;have BK149:=n3_;have GW149:=n4_;have GE149:=n5_;have NB142_149:=n6_;have NB149_142:=n7_;have NB143_149:=n8_;have NB149_143:=n9_;clear n0_ n1_ n2_ n3_ n4_ n5_ n6_ n7_ n8_ n9_ hb hbox hg
             refine hK.out _ _ ⟨(blk_cell BK142.out 0).trans rfl,(blk_cell BK142.out 1).trans rfl⟩ (fun hHeld => ?_)
             clear hK K
             refine norm_ (a':=?_) ?_ ?_
             rotate_left
             ·show Act.put _ (some 7) _ = _
              simp only [NR]
              rfl
             exact norm_ (by first | (simp only [putAll,Act.put,List.setIfInBounds_toArray,List.set_cons_zero,List.set_cons_succ];done) | (simp only [putAll,Act.put,List.setIfInBounds_toArray,List.set_cons_zero,List.set_cons_succ];rfl)) (hJ9 (gb149) _ ⟨hHeld,kA,kA,kA,GW149.out,GE149.out,NB142_149.out,NB149_142.out,NB143_149.out,NB149_143.out,bA⟩)
           ·skip
            rintro gb149 w11 ⟨hS_,h0_,h1_,h2_,h3_,h4_,h5_,h6_,h7_,h8_,h9_⟩
            have n0_ : Aside0 (w11.heap[gb142]? = some (.cells #[.int .u64 a0_0,.int .u64 a0_1] 76 (0,0))):=⟨h0_⟩
            have n1_ : Aside0 (w11.heap[gb143]? = some (.cells #[.int .u64 0,.int .u64 0] 76 (0,0))):=⟨h1_⟩
            have n2_ : Aside0 (w11.heap[gb149]? = some (.cells #[.int .u64 0,.int .u64 0] 76 (0,0))):=⟨h2_⟩
            have n3_ : Aside0 (w.heap.size ≤ gb149):=⟨h3_⟩
            have n4_ : Aside0 (w.heap.size ≤ gb149):=⟨h4_⟩
            have n5_ : Aside0 (gb142 ≠ gb149):=⟨h5_⟩
            have n6_ : Aside0 (gb149 ≠ gb142):=⟨h6_⟩
            have n7_ : Aside0 (gb143 ≠ gb149):=⟨h7_⟩
            have n8_ : Aside0 (gb149 ≠ gb143):=⟨h8_⟩
            have n9_ : Aside0 (Below w.heap.size w w11):=⟨h9_⟩
            clear BK142 BK143 HB h0_ h1_ h2_ h3_ h4_ h5_ h6_ h7_ h8_ h9_;have BK142:=n0_;have BK143:=n1_;have BK149:=n2_;have GW149:=n3_;have GE149:=n4_;have NB142_149:=n5_;have NB149_142:=n6_;have NB143_149:=n7_;have NB149_143:=n8_;have HB:=n9_;clear n0_ n1_ n2_ n3_ n4_ n5_ n6_ n7_ n8_ n9_
            have hHeld : w11.cell? ⟨gb142,0,none⟩ = some (.int .u64 a0_0) ∧ w11.cell? ⟨gb142,1,none⟩ = some (.int .u64 a0_1):=hS_
            refine norm_ (a':=?_) ?_ ?_
            rotate_left
            ·simp only [putAll,Act.put,List.setIfInBounds_toArray,List.set_cons_zero,List.set_cons_succ]
             rfl
            refine two_ (i:=3) (j:=8) (Ni:=some 11) (Nj:=some 6) #[yy,yy,yy,yy,yy,yy,yy,nn,nn,yy,nn,nn] #[yy,yy,yy,nn,yy,yy,yy,nn,yy,yy,nn,nn] rfl rfl rfl rfl (two_of HT_.out (by kernel_rfl)) (by decide) (by decide) (fun K hK => ?_) (fun K hK => ?_)
            ·skip
             refine goes_ Tryd.func42 (by kernel_rfl) rfl #[.int .u64 a0_1,.int .u64 a1] (by rfl) rfl rfl aA ?_
             with_reducible refine (wide_Mul.calls a0_1 a1 t144 t145 _ A3.out).mono ?_
             rintro e w12 ⟨rfl,hb⟩
             refine ⟨_,rfl,?_⟩;have n0_:=Am (blk_below (g:=gb142) kA hb);have n1_:=Am (blk_below (g:=gb143) kA hb);have n2_:=Am (blk_below (g:=gb149) kA hb);have n3_:=Am (below_step bA hb);clear BK142 BK143 BK149 HB;have BK142:=n0_;have BK143:=n1_;have BK149:=n2_;have HB:=n3_;clear n0_ n1_ n2_ n3_;(try clear hb)
             refine hK.out _ _ ⟨(blk_cell BK142.out 0).trans rfl,(blk_cell BK142.out 1).trans rfl⟩ (fun hHeld => ?_)
             clear hK K
             refine norm_ (a':=?_) ?_ ?_
             rotate_left
             ·show Act.put _ (some 11) _ = _
              simp only [NR]
              rfl
             exact norm_ (by first | (simp only [putAll,Act.put,List.setIfInBounds_toArray,List.set_cons_zero,List.set_cons_succ];done) | (simp only [putAll,Act.put,List.setIfInBounds_toArray,List.set_cons_zero,List.set_cons_succ];rfl)) (hJ3_9 (gb149) _ ⟨hHeld,kA,kA,kA,GW149.out,GE149.out,NB142_149.out,NB149_142.out,NB143_149.out,NB149_143.out,bA⟩)
            ·skip
             refine box_step ?hg (N:=6) ?hd (cs:=#[.int .u64 0,.int .u64 0]) (t:=76) ?hr ?_;(case hd => rfl);(case hg => rfl);(case hr => first | (go_simp;done) | (go_simp;rfl))
             intro gb148 hg w12 hbox hb
             have n0_:=Am (blk_below (g:=gb142) kA hb);have n1_:=Am (blk_below (g:=gb143) kA hb);have n2_:=Am (blk_below (g:=gb149) kA hb);have n3_:=Am (below_step bA hb);have n4_:=Am (hbox);have n5_:=Am (gwA hg bA);have n6_:=Am (gwA hg bA);have n7_:=Am (neA (g:=gb142) hg kA);have n8_:=Am (neB (g:=gb142) hg kA);have n9_:=Am (neA (g:=gb143) hg kA);have n10_:=Am (neB (g:=gb143) hg kA);have n11_:=Am (neA (g:=gb149) hg kA);have n12_:=Am (neB (g:=gb149) hg kA);clear BK142 BK143 BK149 HB;have BK142:=n0_;have BK143:=n1_;have BK149:=n2_;have HB:=n3_;have BK148:=n4_;have GW148:=n5_;have GE148:=n6_;have NB142_148:=n7_;have NB148_142:=n8_;have NB143_148:=n9_;have NB148_143:=n10_;have NB149_148:=n11_;have NB148_149:=n12_;clear n0_ n1_ n2_ n3_ n4_ n5_ n6_ n7_ n8_ n9_ n10_ n11_ n12_ hb hbox hg
             refine hK.out _ _ ⟨(blk_cell BK142.out 0).trans rfl,(blk_cell BK142.out 1).trans rfl⟩ (fun hHeld => ?_)
             clear hK K
             refine norm_ (a':=?_) ?_ ?_
             rotate_left
             ·show Act.put _ (some 6) _ = _
              simp only [NR]
              rfl
             exact norm_ (by first | (simp only [putAll,Act.put,List.setIfInBounds_toArray,List.set_cons_zero,List.set_cons_succ];done) | (simp only [putAll,Act.put,List.setIfInBounds_toArray,List.set_cons_zero,List.set_cons_succ];rfl)) (hJ8_9 (gb148,gb149) _ ⟨hHeld,kA,kA,kA,kA,GW148.out,GE148.out,NB142_148.out,NB148_142.out,NB143_148.out,NB148_143.out,NB149_148.out,NB148_149.out,GW149.out,GE149.out,NB142_149.out,NB149_142.out,NB143_149.out,NB149_143.out,bA⟩)
          ·skip
           rintro gb148 w11 ⟨hS_,h0_,h1_,h2_,h3_,h4_,h5_,h6_,h7_,h8_,h9_⟩
           have n0_ : Aside0 (w11.heap[gb142]? = some (.cells #[.int .u64 a0_0,.int .u64 a0_1] 76 (0,0))):=⟨h0_⟩
           have n1_ : Aside0 (w11.heap[gb143]? = some (.cells #[.int .u64 0,.int .u64 0] 76 (0,0))):=⟨h1_⟩
           have n2_ : Aside0 (w11.heap[gb148]? = some (.cells #[.int .u64 0,.int .u64 0] 76 (0,0))):=⟨h2_⟩
           have n3_ : Aside0 (w.heap.size ≤ gb148):=⟨h3_⟩
           have n4_ : Aside0 (w.heap.size ≤ gb148):=⟨h4_⟩
           have n5_ : Aside0 (gb142 ≠ gb148):=⟨h5_⟩
           have n6_ : Aside0 (gb148 ≠ gb142):=⟨h6_⟩
           have n7_ : Aside0 (gb143 ≠ gb148):=⟨h7_⟩
           have n8_ : Aside0 (gb148 ≠ gb143):=⟨h8_⟩
           have n9_ : Aside0 (Below w.heap.size w w11):=⟨h9_⟩
           clear BK142 BK143 HB h0_ h1_ h2_ h3_ h4_ h5_ h6_ h7_ h8_ h9_;have BK142:=n0_;have BK143:=n1_;have BK148:=n2_;have GW148:=n3_;have GE148:=n4_;have NB142_148:=n5_;have NB148_142:=n6_;have NB143_148:=n7_;have NB148_143:=n8_;have HB:=n9_;clear n0_ n1_ n2_ n3_ n4_ n5_ n6_ n7_ n8_ n9_
           have hHeld : w11.cell? ⟨gb142,0,none⟩ = some (.int .u64 a0_0) ∧ w11.cell? ⟨gb142,1,none⟩ = some (.int .u64 a0_1):=hS_
           refine norm_ (a':=?_) ?_ ?_
           rotate_left
           ·simp only [putAll,Act.put,List.setIfInBounds_toArray,List.set_cons_zero,List.set_cons_succ]
            rfl
           refine two_ (i:=3) (j:=9) (Ni:=some 11) (Nj:=some 7) #[yy,yy,yy,yy,yy,yy,yy,nn,yy,nn,nn,nn] #[yy,yy,yy,nn,yy,yy,yy,nn,yy,yy,nn,nn] rfl rfl rfl rfl (two_of HT_.out (by kernel_rfl)) (by decide) (by decide) (fun K hK => ?_) (fun K hK => ?_)
           ·skip
            refine goes_ Tryd.func42 (by kernel_rfl) rfl #[.int .u64 a0_1,.int .u64 a1] (by rfl) rfl rfl aA ?_
            with_reducible refine (wide_Mul.calls a0_1 a1 t144 t145 _ A3.out).mono ?_
            rintro e w12 ⟨rfl,hb⟩
            refine ⟨_,rfl,?_⟩;have n0_:=Am (blk_below (g:=gb142) kA hb);have n1_:=Am (blk_below (g:=gb143) kA hb);have n2_:=Am (blk_below (g:=gb148) kA hb);have n3_:=Am (below_step bA hb);clear BK142 BK143 BK148 HB;have BK142:=n0_;have BK143:=n1_;have BK148:=n2_;have HB:=n3_;clear n0_ n1_ n2_ n3_;(try clear hb)
            refine hK.out _ _ ⟨(blk_cell BK142.out 0).trans rfl,(blk_cell BK142.out 1).trans rfl⟩ (fun hHeld => ?_)
            clear hK K
            refine norm_ (a':=?_) ?_ ?_
            rotate_left
            ·show Act.put _ (some 11) _ = _
             simp only [NR]
             rfl
            exact norm_ (by first | (simp only [putAll,Act.put,List.setIfInBounds_toArray,List.set_cons_zero,List.set_cons_succ];done) | (simp only [putAll,Act.put,List.setIfInBounds_toArray,List.set_cons_zero,List.set_cons_succ];rfl)) (hJ3_8 (gb148) _ ⟨hHeld,kA,kA,kA,GW148.out,GE148.out,NB142_148.out,NB148_142.out,NB143_148.out,NB148_143.out,bA⟩)
           ·skip
            refine box_step ?hg (N:=7) ?hd (cs:=#[.int .u64 0,.int .u64 0]) (t:=76) ?hr ?_;(case hd => rfl);(case hg => rfl);(case hr => first | (go_simp;done) | (go_simp;rfl))
            intro gb149 hg w12 hbox hb
            have n0_:=Am (blk_below (g:=gb142) kA hb);have n1_:=Am (blk_below (g:=gb143) kA hb);have n2_:=Am (blk_below (g:=gb148) kA hb);have n3_:=Am (below_step bA hb);have n4_:=Am (hbox);have n5_:=Am (gwA hg bA);have n6_:=Am (gwA hg bA);have n7_:=Am (neA (g:=gb142) hg kA);have n8_:=Am (neB (g:=gb142) hg kA);have n9_:=Am (neA (g:=gb143) hg kA);have n10_:=Am (neB (g:=gb143) hg kA);have n11_:=Am (neA (g:=gb148) hg kA);have n12_:=Am (neB (g:=gb148) hg kA);clear BK142 BK143 BK148 HB;have BK142:=n0_;have BK143:=n1_;have BK148:=n2_;have HB:=n3_;have BK149:=n4_;have GW149:=n5_;have GE149:=n6_;have NB142_149:=n7_;have NB149_142:=n8_;have NB143_149:=n9_;have NB149_143:=n10_;have NB148_149:=n11_;have NB149_148:=n12_;clear n0_ n1_ n2_ n3_ n4_ n5_ n6_ n7_ n8_ n9_ n10_ n11_ n12_ hb hbox hg
            refine hK.out _ _ ⟨(blk_cell BK142.out 0).trans rfl,(blk_cell BK142.out 1).trans rfl⟩ (fun hHeld => ?_)
            clear hK K
            refine norm_ (a':=?_) ?_ ?_
            rotate_left
            ·show Act.put _ (some 7) _ = _
             simp only [NR]
             rfl
            exact norm_ (by first | (simp only [putAll,Act.put,List.setIfInBounds_toArray,List.set_cons_zero,List.set_cons_succ];done) | (simp only [putAll,Act.put,List.setIfInBounds_toArray,List.set_cons_zero,List.set_cons_succ];rfl)) (hJ8_9 (gb148,gb149) _ ⟨hHeld,kA,kA,kA,kA,GW148.out,GE148.out,NB142_148.out,NB148_142.out,NB143_148.out,NB148_143.out,NB149_148.out,NB148_149.out,GW149.out,GE149.out,NB142_149.out,NB149_142.out,NB143_149.out,NB149_143.out,bA⟩)
         ·skip
          rintro _ w11 ⟨hS_,h0_,h1_,h2_⟩
          have n0_ : Aside0 (w11.heap[gb142]? = some (.cells #[.int .u64 a0_0,.int .u64 a0_1] 76 (0,0))):=⟨h0_⟩
          have n1_ : Aside0 (w11.heap[gb143]? = some (.cells #[.int .u64 0,.int .u64 0] 76 (0,0))):=⟨h1_⟩
          have n2_ : Aside0 (Below w.heap.size w w11):=⟨h2_⟩
          clear BK142 BK143 HB h0_ h1_ h2_;have BK142:=n0_;have BK143:=n1_;have HB:=n2_;clear n0_ n1_ n2_
          have hHeld : w11.cell? ⟨gb142,0,none⟩ = some (.int .u64 a0_0) ∧ w11.cell? ⟨gb142,1,none⟩ = some (.int .u64 a0_1):=hS_
          refine norm_ (a':=?_) ?_ ?_
          rotate_left
          ·simp only [putAll,Act.put,List.setIfInBounds_toArray,List.set_cons_zero,List.set_cons_succ]
           rfl
          refine three_ (i:=7) (j:=8) (k:=9) (Ni:=some 15) (Nj:=some 6) (Nk:=some 7) #[yy,yy,yy,yy,yy,yy,yy,yy,nn,nn,nn,nn] #[yy,yy,yy,yy,yy,yy,yy,nn,yy,nn,nn,nn] #[yy,yy,yy,yy,yy,yy,yy,nn,nn,yy,nn,nn] rfl rfl rfl rfl rfl rfl (three_of HT_.out (by kernel_rfl)) (by decide) (by decide) (by decide) (fun K hK => ?_) (fun K hK => ?_) (fun K hK => ?_)
          ·skip
           refine goes_ Tryd.func42 (by kernel_rfl) rfl #[.int .u64 a0_0,.int .u64 a1] (by rfl) rfl rfl aA ?_
           with_reducible refine (wide_Mul.calls a0_0 a1 t146 t147 _ A4.out).mono ?_
           rintro e w12 ⟨rfl,hb⟩
           refine ⟨_,rfl,?_⟩;have n0_:=Am (blk_below (g:=gb142) kA hb);have n1_:=Am (blk_below (g:=gb143) kA hb);have n2_:=Am (below_step bA hb);clear BK142 BK143 HB;have BK142:=n0_;have BK143:=n1_;have HB:=n2_;clear n0_ n1_ n2_;(try clear hb)
           refine hK.out _ _ ⟨(blk_cell BK142.out 0).trans rfl,(blk_cell BK142.out 1).trans rfl⟩ (fun hHeld => ?_)
           clear hK K
           refine norm_ (a':=?_) ?_ ?_
           rotate_left
           ·show Act.put _ (some 15) _ = _
            simp only [NR]
            rfl
           exact norm_ (by first | (simp only [putAll,Act.put,List.setIfInBounds_toArray,List.set_cons_zero,List.set_cons_succ];done) | (simp only [putAll,Act.put,List.setIfInBounds_toArray,List.set_cons_zero,List.set_cons_succ];rfl)) (hJ3_7 () _ ⟨hHeld,kA,kA,bA⟩)
          ·skip
           refine box_step ?hg (N:=6) ?hd (cs:=#[.int .u64 0,.int .u64 0]) (t:=76) ?hr ?_;(case hd => rfl);(case hg => rfl);(case hr => first | (go_simp;done) | (go_simp;rfl))
           intro gb148 hg w12 hbox hb
           have n0_:=Am (blk_below (g:=gb142) kA hb);have n1_:=Am (blk_below (g:=gb143) kA hb);have n2_:=Am (below_step bA hb);have n3_:=Am (hbox);have n4_:=Am (gwA hg bA);have n5_:=Am (gwA hg bA);have n6_:=Am (neA (g:=gb142) hg kA);have n7_:=Am (neB (g:=gb142) hg kA);have n8_:=Am (neA (g:=gb143) hg kA);have n9_:=Am (neB (g:=gb143) hg kA);clear BK142 BK143 HB;have BK142:=n0_;have BK143:=n1_;have HB:=n2_;have BK148:=n3_;have GW148:=n4_;have GE148:=n5_;have NB142_148:=n6_;have NB148_142:=n7_;have NB143_148:=n8_;have NB148_143:=n9_;clear n0_ n1_ n2_ n3_ n4_ n5_ n6_ n7_ n8_ n9_ hb hbox hg
           refine hK.out _ _ ⟨(blk_cell BK142.out 0).trans rfl,(blk_cell BK142.out 1).trans rfl⟩ (fun hHeld => ?_)
           clear hK K
           refine norm_ (a':=?_) ?_ ?_
           rotate_left
           ·show Act.put _ (some 6) _ = _
            simp only [NR]
            rfl
           exact norm_ (by first | (simp only [putAll,Act.put,List.setIfInBounds_toArray,List.set_cons_zero,List.set_cons_succ];done) | (simp only [putAll,Act.put,List.setIfInBounds_toArray,List.set_cons_zero,List.set_cons_succ];rfl)) (hJ3_8 (gb148) _ ⟨hHeld,kA,kA,kA,GW148.out,GE148.out,NB142_148.out,NB148_142.out,NB143_148.out,NB148_143.out,bA⟩)
          ·skip
           refine box_step ?hg (N:=7) ?hd (cs:=#[.int .u64 0,.int .u64 0]) (t:=76) ?hr ?_;(case hd => rfl);(case hg => rfl);(case hr => first | (go_simp;done) | (go_simp;rfl))
           intro gb149 hg w12 hbox hb
           have n0_:=Am (blk_below (g:=gb142) kA hb);have n1_:=Am (blk_below (g:=gb143) kA hb);have n2_:=Am (below_step bA hb);have n3_:=Am (hbox);have n4_:=Am (gwA hg bA);have n5_:=Am (gwA hg bA);have n6_:=Am (neA (g:=gb142) hg kA);have n7_:=Am (neB (g:=gb142) hg kA);have n8_:=Am (neA (g:=gb143) hg kA);have n9_:=Am (neB (g:=gb143) hg kA);clear BK142 BK143 HB;have BK142:=n0_;have BK143:=n1_;have HB:=n2_;have BK149:=n3_;have GW149:=n4_;have GE149:=n5_;have NB142_149:=n6_;have NB149_142:=n7_;have NB143_149:=n8_;have NB149_143:=n9_;clear n0_ n1_ n2_ n3_ n4_ n5_ n6_ n7_ n8_ n9_ hb hbox hg
           refine hK.out _ _ ⟨(blk_cell BK142.out 0).trans rfl,(blk_cell BK142.out 1).trans rfl⟩ (fun hHeld => ?_)
           clear hK K
           refine norm_ (a':=?_) ?_ ?_
           rotate_left
           ·show Act.put _ (some 7) _ = _
            simp only [NR]
            rfl
           exact norm_ (by first | (simp only [putAll,Act.put,List.setIfInBounds_toArray,List.set_cons_zero,List.set_cons_succ];done) | (simp only [putAll,Act.put,List.setIfInBounds_toArray,List.set_cons_zero,List.set_cons_succ];rfl)) (hJ3_9 (gb149) _ ⟨hHeld,kA,kA,kA,GW149.out,GE149.out,NB142_149.out,NB149_142.out,NB143_149.out,NB149_143.out,bA⟩)
        ·skip
         rintro ⟨gb148,gb149⟩ w12 ⟨hS_,h0_,h1_,h2_,h3_,h4_,h5_,h6_,h7_,h8_,h9_,h10_,h11_,h12_,h13_,h14_,h15_,h16_,h17_,h18_⟩
         have n0_ : Aside0 (w12.heap[gb142]? = some (.cells #[.int .u64 a0_0,.int .u64 a0_1] 76 (0,0))):=⟨h0_⟩
         have n1_ : Aside0 (w12.heap[gb143]? = some (.cells #[.int .u64 0,.int .u64 0] 76 (0,0))):=⟨h1_⟩
         have n2_ : Aside0 (w12.heap[gb148]? = some (.cells #[.int .u64 0,.int .u64 0] 76 (0,0))):=⟨h2_⟩
         have n3_ : Aside0 (w12.heap[gb149]? = some (.cells #[.int .u64 0,.int .u64 0] 76 (0,0))):=⟨h3_⟩
         have n4_ : Aside0 (w.heap.size ≤ gb148):=⟨h4_⟩
         have n5_ : Aside0 (w.heap.size ≤ gb148):=⟨h5_⟩
         have n6_ : Aside0 (gb142 ≠ gb148):=⟨h6_⟩
         have n7_ : Aside0 (gb148 ≠ gb142):=⟨h7_⟩
         have n8_ : Aside0 (gb143 ≠ gb148):=⟨h8_⟩
         have n9_ : Aside0 (gb148 ≠ gb143):=⟨h9_⟩
         have n10_ : Aside0 (gb149 ≠ gb148):=⟨h10_⟩
         have n11_ : Aside0 (gb148 ≠ gb149):=⟨h11_⟩
         have n12_ : Aside0 (w.heap.size ≤ gb149):=⟨h12_⟩
         have n13_ : Aside0 (w.heap.size ≤ gb149):=⟨h13_⟩
         have n14_ : Aside0 (gb142 ≠ gb149):=⟨h14_⟩
         have n15_ : Aside0 (gb149 ≠ gb142):=⟨h15_⟩
         have n16_ : Aside0 (gb143 ≠ gb149):=⟨h16_⟩
         have n17_ : Aside0 (gb149 ≠ gb143):=⟨h17_⟩
         have n18_ : Aside0 (Below w.heap.size w w12):=⟨h18_⟩
         clear BK142 BK143 HB h0_ h1_ h2_ h3_ h4_ h5_ h6_ h7_ h8_ h9_ h10_ h11_ h12_ h13_ h14_ h15_ h16_ h17_ h18_;have BK142:=n0_;have BK143:=n1_;have BK148:=n2_;have BK149:=n3_;have GW148:=n4_;have GE148:=n5_;have NB142_148:=n6_;have NB148_142:=n7_;have NB143_148:=n8_;have NB148_143:=n9_;have NB149_148:=n10_;have NB148_149:=n11_;have GW149:=n12_;have GE149:=n13_;have NB142_149:=n14_;have NB149_142:=n15_;have NB143_149:=n16_;have NB149_143:=n17_;have HB:=n18_;clear n0_ n1_ n2_ n3_ n4_ n5_ n6_ n7_ n8_ n9_ n10_ n11_ n12_ n13_ n14_ n15_ n16_ n17_ n18_
         have hHeld : w12.cell? ⟨gb142,0,none⟩ = some (.int .u64 a0_0) ∧ w12.cell? ⟨gb142,1,none⟩ = some (.int .u64 a0_1):=hS_
         refine norm_ (a':=?_) ?_ ?_
         rotate_left
         ·simp only [putAll,Act.put,List.setIfInBounds_toArray,List.set_cons_zero,List.set_cons_succ]
          rfl
         refine one_ (i:=3) (N:=some 11) #[yy,yy,yy,yy,yy,yy,yy,nn,yy,yy,nn,nn] rfl rfl (one_of HT_.out (by kernel_rfl)) (by decide) (fun K hK => ?_)
         refine goes_ Tryd.func42 (by kernel_rfl) rfl #[.int .u64 a0_1,.int .u64 a1] (by rfl) rfl rfl aA ?_
         with_reducible refine (wide_Mul.calls a0_1 a1 t144 t145 _ A3.out).mono ?_
         rintro e w13 ⟨rfl,hb⟩
         refine ⟨_,rfl,?_⟩;have n0_:=Am (blk_below (g:=gb142) kA hb);have n1_:=Am (blk_below (g:=gb143) kA hb);have n2_:=Am (blk_below (g:=gb148) kA hb);have n3_:=Am (blk_below (g:=gb149) kA hb);have n4_:=Am (below_step bA hb);clear BK142 BK143 BK148 BK149 HB;have BK142:=n0_;have BK143:=n1_;have BK148:=n2_;have BK149:=n3_;have HB:=n4_;clear n0_ n1_ n2_ n3_ n4_;(try clear hb)
         refine hK.out _ _ ⟨(blk_cell BK142.out 0).trans rfl,(blk_cell BK142.out 1).trans rfl⟩ (fun hHeld => ?_)
         clear hK K
         refine norm_ (a':=?_) ?_ ?_
         rotate_left
         ·show Act.put _ (some 11) _ = _
          simp only [NR]
          rfl
         exact norm_ (by first | (simp only [putAll,Act.put,List.setIfInBounds_toArray,List.set_cons_zero,List.set_cons_succ];done) | (simp only [putAll,Act.put,List.setIfInBounds_toArray,List.set_cons_zero,List.set_cons_succ];rfl)) (hJ3_8_9 (gb148,gb149) _ ⟨hHeld,kA,kA,kA,kA,GW148.out,GE148.out,NB142_148.out,NB148_142.out,NB143_148.out,NB148_143.out,NB149_148.out,NB148_149.out,GW149.out,GE149.out,NB142_149.out,NB149_142.out,NB143_149.out,NB149_143.out,bA⟩)
       ·skip
        rintro gb149 w12 ⟨hS_,h0_,h1_,h2_,h3_,h4_,h5_,h6_,h7_,h8_,h9_⟩
        have n0_ : Aside0 (w12.heap[gb142]? = some (.cells #[.int .u64 a0_0,.int .u64 a0_1] 76 (0,0))):=⟨h0_⟩
        have n1_ : Aside0 (w12.heap[gb143]? = some (.cells #[.int .u64 0,.int .u64 0] 76 (0,0))):=⟨h1_⟩
        have n2_ : Aside0 (w12.heap[gb149]? = some (.cells #[.int .u64 0,.int .u64 0] 76 (0,0))):=⟨h2_⟩
        have n3_ : Aside0 (w.heap.size ≤ gb149):=⟨h3_⟩
        have n4_ : Aside0 (w.heap.size ≤ gb149):=⟨h4_⟩
        have n5_ : Aside0 (gb142 ≠ gb149):=⟨h5_⟩
        have n6_ : Aside0 (gb149 ≠ gb142):=⟨h6_⟩
        have n7_ : Aside0 (gb143 ≠ gb149):=⟨h7_⟩
        have n8_ : Aside0 (gb149 ≠ gb143):=⟨h8_⟩
        have n9_ : Aside0 (Below w.heap.size w w12):=⟨h9_⟩
        clear BK142 BK143 HB h0_ h1_ h2_ h3_ h4_ h5_ h6_ h7_ h8_ h9_;have BK142:=n0_;have BK143:=n1_;have BK149:=n2_;have GW149:=n3_;have GE149:=n4_;have NB142_149:=n5_;have NB149_142:=n6_;have NB143_149:=n7_;have NB149_143:=n8_;have HB:=n9_;clear n0_ n1_ n2_ n3_ n4_ n5_ n6_ n7_ n8_ n9_
        have hHeld : w12.cell? ⟨gb142,0,none⟩ = some (.int .u64 a0_0) ∧ w12.cell? ⟨gb142,1,none⟩ = some (.int .u64 a0_1):=hS_
        refine norm_ (a':=?_) ?_ ?_
        rotate_left
        ·simp only [putAll,Act.put,List.setIfInBounds_toArray,List.set_cons_zero,List.set_cons_succ]
         rfl
        refine two_ (i:=7) (j:=8) (Ni:=some 15) (Nj:=some 6) #[yy,yy,yy,yy,yy,yy,yy,yy,nn,yy,nn,nn] #[yy,yy,yy,yy,yy,yy,yy,nn,yy,yy,nn,nn] rfl rfl rfl rfl (two_of HT_.out (by kernel_rfl)) (by decide) (by decide) (fun K hK => ?_) (fun K hK => ?_)
        ·skip
         refine goes_ Tryd.func42 (by kernel_rfl) rfl #[.int .u64 a0_0,.int .u64 a1] (by rfl) rfl rfl aA ?_
         with_reducible refine (wide_Mul.calls a0_0 a1 t146 t147 _ A4.out).mono ?_
         rintro e w13 ⟨rfl,hb⟩
         refine ⟨_,rfl,?_⟩;have n0_:=Am (blk_below (g:=gb142) kA hb);have n1_:=Am (blk_below (g:=gb143) kA hb);have n2_:=Am (blk_below (g:=gb149) kA hb);have n3_:=Am (below_step bA hb);clear BK142 BK143 BK149 HB;have BK142:=n0_;have BK143:=n1_;have BK149:=n2_;have HB:=n3_;clear n0_ n1_ n2_ n3_;(try clear hb)
         refine hK.out _ _ ⟨(blk_cell BK142.out 0).trans rfl,(blk_cell BK142.out 1).trans rfl⟩ (fun hHeld => ?_)
         clear hK K
         refine norm_ (a':=?_) ?_ ?_
         rotate_left
         ·show Act.put _ (some 15) _ = _
          simp only [NR]
          rfl
         exact norm_ (by first | (simp only [putAll,Act.put,List.setIfInBounds_toArray,List.set_cons_zero,List.set_cons_succ];done) | (simp only [putAll,Act.put,List.setIfInBounds_toArray,List.set_cons_zero,List.set_cons_succ];rfl)) (hJ3_7_9 (gb149) _ ⟨hHeld,kA,kA,kA,GW149.out,GE149.out,NB142_149.out,NB149_142.out,NB143_149.out,NB149_143.out,bA⟩)
        ·skip
         refine box_step ?hg (N:=6) ?hd (cs:=#[.int .u64 0,.int .u64 0]) (t:=76) ?hr ?_;(case hd => rfl);(case hg => rfl);(case hr => first | (go_simp;done) | (go_simp;rfl))
         intro gb148 hg w13 hbox hb
         have n0_:=Am (blk_below (g:=gb142) kA hb);have n1_:=Am (blk_below (g:=gb143) kA hb);have n2_:=Am (blk_below (g:=gb149) kA hb);have n3_:=Am (below_step bA hb);have n4_:=Am (hbox);have n5_:=Am (gwA hg bA);have n6_:=Am (gwA hg bA);have n7_:=Am (neA (g:=gb142) hg kA);have n8_:=Am (neB (g:=gb142) hg kA);have n9_:=Am (neA (g:=gb143) hg kA);have n10_:=Am (neB (g:=gb143) hg kA);have n11_:=Am (neA (g:=gb149) hg kA);have n12_:=Am (neB (g:=gb149) hg kA);clear BK142 BK143 BK149 HB;have BK142:=n0_;have BK143:=n1_;have BK149:=n2_;have HB:=n3_;have BK148:=n4_;have GW148:=n5_;have GE148:=n6_;have NB142_148:=n7_;have NB148_142:=n8_;have NB143_148:=n9_;have NB148_143:=n10_;have NB149_148:=n11_;have NB148_149:=n12_;clear n0_ n1_ n2_ n3_ n4_ n5_ n6_ n7_ n8_ n9_ n10_ n11_ n12_ hb hbox hg
         refine hK.out _ _ ⟨(blk_cell BK142.out 0).trans rfl,(blk_cell BK142.out 1).trans rfl⟩ (fun hHeld => ?_)
         clear hK K
         refine norm_ (a':=?_) ?_ ?_
         rotate_left
         ·show Act.put _ (some 6) _ = _
          simp only [NR]
          rfl
         exact norm_ (by first | (simp only [putAll,Act.put,List.setIfInBounds_toArray,List.set_cons_zero,List.set_cons_succ];done) | (simp only [putAll,Act.put,List.setIfInBounds_toArray,List.set_cons_zero,List.set_cons_succ];rfl)) (hJ3_8_9 (gb148,gb149) _ ⟨hHeld,kA,kA,kA,kA,GW148.out,GE148.out,NB142_148.out,NB148_142.out,NB143_148.out,NB148_143.out,NB149_148.out,NB148_149.out,GW149.out,GE149.out,NB142_149.out,NB149_142.out,NB143_149.out,NB149_143.out,bA⟩)
      ·skip
       rintro gb148 w12 ⟨hS_,h0_,h1_,h2_,h3_,h4_,h5_,h6_,h7_,h8_,h9_⟩
       have n0_ : Aside0 (w12.heap[gb142]? = some (.cells #[.int .u64 a0_0,.int .u64 a0_1] 76 (0,0))):=⟨h0_⟩
       have n1_ : Aside0 (w12.heap[gb143]? = some (.cells #[.int .u64 0,.int .u64 0] 76 (0,0))):=⟨h1_⟩
       have n2_ : Aside0 (w12.heap[gb148]? = some (.cells #[.int .u64 0,.int .u64 0] 76 (0,0))):=⟨h2_⟩
       have n3_ : Aside0 (w.heap.size ≤ gb148):=⟨h3_⟩
       have n4_ : Aside0 (w.heap.size ≤ gb148):=⟨h4_⟩
       have n5_ : Aside0 (gb142 ≠ gb148):=⟨h5_⟩
       have n6_ : Aside0 (gb148 ≠ gb142):=⟨h6_⟩
       have n7_ : Aside0 (gb143 ≠ gb148):=⟨h7_⟩
       have n8_ : Aside0 (gb148 ≠ gb143):=⟨h8_⟩
       have n9_ : Aside0 (Below w.heap.size w w12):=⟨h9_⟩
       clear BK142 BK143 HB h0_ h1_ h2_ h3_ h4_ h5_ h6_ h7_ h8_ h9_;have BK142:=n0_;have BK143:=n1_;have BK148:=n2_;have GW148:=n3_;have GE148:=n4_;have NB142_148:=n5_;have NB148_142:=n6_;have NB143_148:=n7_;have NB148_143:=n8_;have HB:=n9_;clear n0_ n1_ n2_ n3_ n4_ n5_ n6_ n7_ n8_ n9_
       have hHeld : w12.cell? ⟨gb142,0,none⟩ = some (.int .u64 a0_0) ∧ w12.cell? ⟨gb142,1,none⟩ = some (.int .u64 a0_1):=hS_
       refine norm_ (a':=?_) ?_ ?_
       rotate_left
       ·simp only [putAll,Act.put,List.setIfInBounds_toArray,List.set_cons_zero,List.set_cons_succ]
        rfl
       refine two_ (i:=7) (j:=9) (Ni:=some 15) (Nj:=some 7) #[yy,yy,yy,yy,yy,yy,yy,yy,yy,nn,nn,nn] #[yy,yy,yy,yy,yy,yy,yy,nn,yy,yy,nn,nn] rfl rfl rfl rfl (two_of HT_.out (by kernel_rfl)) (by decide) (by decide) (fun K hK => ?_) (fun K hK => ?_)
       ·skip
        refine goes_ Tryd.func42 (by kernel_rfl) rfl #[.int .u64 a0_0,.int .u64 a1] (by rfl) rfl rfl aA ?_
        with_reducible refine (wide_Mul.calls a0_0 a1 t146 t147 _ A4.out).mono ?_
        rintro e w13 ⟨rfl,hb⟩
        refine ⟨_,rfl,?_⟩;have n0_:=Am (blk_below (g:=gb142) kA hb);have n1_:=Am (blk_below (g:=gb143) kA hb);have n2_:=Am (blk_below (g:=gb148) kA hb);have n3_:=Am (below_step bA hb);clear BK142 BK143 BK148 HB;have BK142:=n0_;have BK143:=n1_;have BK148:=n2_;have HB:=n3_;clear n0_ n1_ n2_ n3_;(try clear hb)
        refine hK.out _ _ ⟨(blk_cell BK142.out 0).trans rfl,(blk_cell BK142.out 1).trans rfl⟩ (fun hHeld => ?_)
        clear hK K
        refine norm_ (a':=?_) ?_ ?_
        rotate_left
        ·show Act.put _ (some 15) _ = _
         simp only [NR]
         rfl
        exact norm_ (by first | (simp only [putAll,Act.put,List.setIfInBounds_toArray,List.set_cons_zero,List.set_cons_succ];done) | (simp only [putAll,Act.put,List.setIfInBounds_toArray,List.set_cons_zero,List.set_cons_succ];rfl)) (hJ3_7_8 (gb148) _ ⟨hHeld,kA,kA,kA,GW148.out,GE148.out,NB142_148.out,NB148_142.out,NB143_148.out,NB148_143.out,bA⟩)
       ·skip
        refine box_step ?hg (N:=7) ?hd (cs:=#[.int .u64 0,.int .u64 0]) (t:=76) ?hr ?_;(case hd => rfl);(case hg => rfl);(case hr => first | (go_simp;done) | (go_simp;rfl))
        intro gb149 hg w13 hbox hb
        have n0_:=Am (blk_below (g:=gb142) kA hb);have n1_:=Am (blk_below (g:=gb143) kA hb);have n2_:=Am (blk_below (g:=gb148) kA hb);have n3_:=Am (below_step bA hb);have n4_:=Am (hbox);have n5_:=Am (gwA hg bA);have n6_:=Am (gwA hg bA);have n7_:=Am (neA (g:=gb142) hg kA);have n8_:=Am (neB (g:=gb142) hg kA);have n9_:=Am (neA (g:=gb143) hg kA);have n10_:=Am (neB (g:=gb143) hg kA);have n11_:=Am (neA (g:=gb148) hg kA);have n12_:=Am (neB (g:=gb148) hg kA);clear BK142 BK143 BK148 HB;have BK142:=n0_;have BK143:=n1_;have BK148:=n2_;have HB:=n3_;have BK149:=n4_;have GW149:=n5_;have GE149:=n6_;have NB142_149:=n7_;have NB149_142:=n8_;have NB143_149:=n9_;have NB149_143:=n10_;have NB148_149:=n11_;have NB149_148:=n12_;clear n0_ n1_ n2_ n3_ n4_ n5_ n6_ n7_ n8_ n9_ n10_ n11_ n12_ hb hbox hg
        refine hK.out _ _ ⟨(blk_cell BK142.out 0).trans rfl,(blk_cell BK142.out 1).trans rfl⟩ (fun hHeld => ?_)
        clear hK K
        refine norm_ (a':=?_) ?_ ?_
        rotate_left
        ·show Act.put _ (some 7) _ = _
         simp only [NR]
         rfl
        exact norm_ (by first | (simp only [putAll,Act.put,List.setIfInBounds_toArray,List.set_cons_zero,List.set_cons_succ];done) | (simp only [putAll,Act.put,List.setIfInBounds_toArray,List.set_cons_zero,List.set_cons_succ];rfl)) (hJ3_8_9 (gb148,gb149) _ ⟨hHeld,kA,kA,kA,kA,GW148.out,GE148.out,NB142_148.out,NB148_142.out,NB143_148.out,NB148_143.out,NB149_148.out,NB148_149.out,GW149.out,GE149.out,NB142_149.out,NB149_142.out,NB143_149.out,NB149_143.out,bA⟩)
     ·skip
      rintro _ w12 ⟨hS_,h0_,h1_,h2_⟩
      have n0_ : Aside0 (w12.heap[gb142]? = some (.cells #[.int .u64 a0_0,.int .u64 a0_1] 76 (0,0))):=⟨h0_⟩
      have n1_ : Aside0 (w12.heap[gb143]? = some (.cells #[.int .u64 0,.int .u64 0] 76 (0,0))):=⟨h1_⟩
      have n2_ : Aside0 (Below w.heap.size w w12):=⟨h2_⟩
      clear BK142 BK143 HB h0_ h1_ h2_;have BK142:=n0_;have BK143:=n1_;have HB:=n2_;clear n0_ n1_ n2_
      have hHeld : w12.cell? ⟨gb142,0,none⟩ = some (.int .u64 a0_0) ∧ w12.cell? ⟨gb142,1,none⟩ = some (.int .u64 a0_1):=hS_
      refine norm_ (a':=?_) ?_ ?_
      rotate_left
      ·simp only [putAll,Act.put,List.setIfInBounds_toArray,List.set_cons_zero,List.set_cons_succ]
       rfl
      refine two_ (i:=8) (j:=9) (Ni:=some 6) (Nj:=some 7) #[yy,yy,yy,yy,yy,yy,yy,yy,yy,nn,nn,nn] #[yy,yy,yy,yy,yy,yy,yy,yy,nn,yy,nn,nn] rfl rfl rfl rfl (two_of HT_.out (by kernel_rfl)) (by decide) (by decide) (fun K hK => ?_) (fun K hK => ?_)
      ·skip
       refine box_step ?hg (N:=6) ?hd (cs:=#[.int .u64 0,.int .u64 0]) (t:=76) ?hr ?_;(case hd => rfl);(case hg => rfl);(case hr => first | (go_simp;done) | (go_simp;rfl))
       intro gb148 hg w13 hbox hb
       have n0_:=Am (blk_below (g:=gb142) kA hb);have n1_:=Am (blk_below (g:=gb143) kA hb);have n2_:=Am (below_step bA hb);have n3_:=Am (hbox);have n4_:=Am (gwA hg bA);have n5_:=Am (gwA hg bA);have n6_:=Am (neA (g:=gb142) hg kA);have n7_:=Am (neB (g:=gb142) hg kA);have n8_:=Am (neA (g:=gb143) hg kA);have n9_:=Am (neB (g:=gb143) hg kA);clear BK142 BK143 HB;have BK142:=n0_;have BK143:=n1_;have HB:=n2_;have BK148:=n3_;have GW148:=n4_;have GE148:=n5_;have NB142_148:=n6_;have NB148_142:=n7_;have NB143_148:=n8_;have NB148_143:=n9_;clear n0_ n1_ n2_ n3_ n4_ n5_ n6_ n7_ n8_ n9_ hb hbox hg
       refine hK.out _ _ ⟨(blk_cell BK142.out 0).trans rfl,(blk_cell BK142.out 1).trans rfl⟩ (fun hHeld => ?_)
       clear hK K
       refine norm_ (a':=?_) ?_ ?_
       rotate_left
       ·show Act.put _ (some 6) _ = _
        simp only [NR]
        rfl
       exact norm_ (by first | (simp only [putAll,Act.put,List.setIfInBounds_toArray,List.set_cons_zero,List.set_cons_succ];done) | (simp only [putAll,Act.put,List.setIfInBounds_toArray,List.set_cons_zero,List.set_cons_succ];rfl)) (hJ3_7_8 (gb148) _ ⟨hHeld,kA,kA,kA,GW148.out,GE148.out,NB142_148.out,NB148_142.out,NB143_148.out,NB148_143.out,bA⟩)
      ·skip
       refine box_step ?hg (N:=7) ?hd (cs:=#[.int .u64 0,.int .u64 0]) (t:=76) ?hr ?_;(case hd => rfl);(case hg => rfl);(case hr => first | (go_simp;done) | (go_simp;rfl))
       intro gb149 hg w13 hbox hb
       have n0_:=Am (blk_below (g:=gb142) kA hb);have n1_:=Am (blk_below (g:=gb143) kA hb);have n2_:=Am (below_step bA hb);have n3_:=Am (hbox);have n4_:=Am (gwA hg bA);have n5_:=Am (gwA hg bA);have n6_:=Am (neA (g:=gb142) hg kA);have n7_:=Am (neB (g:=gb142) hg kA);have n8_:=Am (neA (g:=gb143) hg kA);have n9_:=Am (neB (g:=gb143) hg kA);clear BK142 BK143 HB;have BK142:=n0_;have BK143:=n1_;have HB:=n2_;have BK149:=n3_;have GW149:=n4_;have GE149:=n5_;have NB142_149:=n6_;have NB149_142:=n7_;have NB143_149:=n8_;have NB149_143:=n9_;clear n0_ n1_ n2_ n3_ n4_ n5_ n6_ n7_ n8_ n9_ hb hbox hg
       refine hK.out _ _ ⟨(blk_cell BK142.out 0).trans rfl,(blk_cell BK142.out 1).trans rfl⟩ (fun hHeld => ?_)
       clear hK K
       refine norm_ (a':=?_) ?_ ?_
       rotate_left
       ·show Act.put _ (some 7) _ = _
        simp only [NR]
        rfl
       exact norm_ (by first | (simp only [putAll,Act.put,List.setIfInBounds_toArray,List.set_cons_zero,List.set_cons_succ];done) | (simp only [putAll,Act.put,List.setIfInBounds_toArray,List.set_cons_zero,List.set_cons_succ];rfl)) (hJ3_7_9 (gb149) _ ⟨hHeld,kA,kA,kA,GW149.out,GE149.out,NB142_149.out,NB149_142.out,NB143_149.out,NB149_143.out,bA⟩)
    ·skip
     rintro ⟨gb148,gb149⟩ w13 ⟨hS_,h0_,h1_,h2_,h3_,h4_,h5_,h6_,h7_,h8_,h9_,h10_,h11_,h12_,h13_,h14_,h15_,h16_,h17_,h18_⟩
     have n0_ : Aside0 (w13.heap[gb142]? = some (.cells #[.int .u64 a0_0,.int .u64 a0_1] 76 (0,0))):=⟨h0_⟩
     have n1_ : Aside0 (w13.heap[gb143]? = some (.cells #[.int .u64 0,.int .u64 0] 76 (0,0))):=⟨h1_⟩
     have n2_ : Aside0 (w13.heap[gb148]? = some (.cells #[.int .u64 0,.int .u64 0] 76 (0,0))):=⟨h2_⟩
     have n3_ : Aside0 (w13.heap[gb149]? = some (.cells #[.int .u64 0,.int .u64 0] 76 (0,0))):=⟨h3_⟩
     have n4_ : Aside0 (w.heap.size ≤ gb148):=⟨h4_⟩
     have n5_ : Aside0 (w.heap.size ≤ gb148):=⟨h5_⟩
     have n6_ : Aside0 (gb142 ≠ gb148):=⟨h6_⟩
     have n7_ : Aside0 (gb148 ≠ gb142):=⟨h7_⟩
     have n8_ : Aside0 (gb143 ≠ gb148):=⟨h8_⟩
     have n9_ : Aside0 (gb148 ≠ gb143):=⟨h9_⟩
     have n10_ : Aside0 (gb149 ≠ gb148):=⟨h10_⟩
     have n11_ : Aside0 (gb148 ≠ gb149):=⟨h11_⟩
     have n12_ : Aside0 (w.heap.size ≤ gb149):=⟨h12_⟩
     have n13_ : Aside0 (w.heap.size ≤ gb149):=⟨h13_⟩
     have n14_ : Aside0 (gb142 ≠ gb149):=⟨h14_⟩
     have n15_ : Aside0 (gb149 ≠ gb142):=⟨h15_⟩
     have n16_ : Aside0 (gb143 ≠ gb149):=⟨h16_⟩
     have n17_ : Aside0 (gb149 ≠ gb143):=⟨h17_⟩
     have n18_ : Aside0 (Below w.heap.size w w13):=⟨h18_⟩
     clear BK142 BK143 HB h0_ h1_ h2_ h3_ h4_ h5_ h6_ h7_ h8_ h9_ h10_ h11_ h12_ h13_ h14_ h15_ h16_ h17_ h18_;have BK142:=n0_;have BK143:=n1_;have BK148:=n2_;have BK149:=n3_;have GW148:=n4_;have GE148:=n5_;have NB142_148:=n6_;have NB148_142:=n7_;have NB143_148:=n8_;have NB148_143:=n9_;have NB149_148:=n10_;have NB148_149:=n11_;have GW149:=n12_;have GE149:=n13_;have NB142_149:=n14_;have NB149_142:=n15_;have NB143_149:=n16_;have NB149_143:=n17_;have HB:=n18_;clear n0_ n1_ n2_ n3_ n4_ n5_ n6_ n7_ n8_ n9_ n10_ n11_ n12_ n13_ n14_ n15_ n16_ n17_ n18_
     have hHeld : w13.cell? ⟨gb142,0,none⟩ = some (.int .u64 a0_0) ∧ w13.cell? ⟨gb142,1,none⟩ = some (.int .u64 a0_1):=hS_
     refine norm_ (a':=?_) ?_ ?_
     rotate_left
     ·simp only [putAll,Act.put,List.setIfInBounds_toArray,List.set_cons_zero,List.set_cons_succ]
      rfl
     refine one_ (i:=7) (N:=some 15) #[yy,yy,yy,yy,yy,yy,yy,yy,yy,yy,nn,nn] rfl rfl (one_of HT_.out (by kernel_rfl)) (by decide) (fun K hK => ?_)
     refine goes_ Tryd.func42 (by kernel_rfl) rfl #[.int .u64 a0_0,.int .u64 a1] (by rfl) rfl rfl aA ?_
     with_reducible refine (wide_Mul.calls a0_0 a1 t146 t147 _ A4.out).mono ?_
     rintro e w14 ⟨rfl,hb⟩
     refine ⟨_,rfl,?_⟩;have n0_:=Am (blk_below (g:=gb142) kA hb);have n1_:=Am (blk_below (g:=gb143) kA hb);have n2_:=Am (blk_below (g:=gb148) kA hb);have n3_:=Am (blk_below (g:=gb149) kA hb);have n4_:=Am (below_step bA hb);clear BK142 BK143 BK148 BK149 HB;have BK142:=n0_;have BK143:=n1_;have BK148:=n2_;have BK149:=n3_;have HB:=n4_;clear n0_ n1_ n2_ n3_ n4_;(try clear hb)
     refine hK.out _ _ ⟨(blk_cell BK142.out 0).trans rfl,(blk_cell BK142.out 1).trans rfl⟩ (fun hHeld => ?_)
     clear hK K
     refine norm_ (a':=?_) ?_ ?_
     rotate_left
     ·show Act.put _ (some 15) _ = _
      simp only [NR]
      rfl
     exact norm_ (by first | (simp only [putAll,Act.put,List.setIfInBounds_toArray,List.set_cons_zero,List.set_cons_succ];done) | (simp only [putAll,Act.put,List.setIfInBounds_toArray,List.set_cons_zero,List.set_cons_succ];rfl)) (hJ3_7_8_9 (gb148,gb149) _ ⟨hHeld,kA,kA,kA,kA,GW148.out,GE148.out,NB142_148.out,NB148_142.out,NB143_148.out,NB148_143.out,NB149_148.out,NB148_149.out,GW149.out,GE149.out,NB142_149.out,NB149_142.out,NB143_149.out,NB149_143.out,bA⟩)
   ·skip
    rintro gb149 w13 ⟨hS_,h0_,h1_,h2_,h3_,h4_,h5_,h6_,h7_,h8_,h9_⟩
    have n0_ : Aside0 (w13.heap[gb142]? = some (.cells #[.int .u64 a0_0,.int .u64 a0_1] 76 (0,0))):=⟨h0_⟩
    have n1_ : Aside0 (w13.heap[gb143]? = some (.cells #[.int .u64 0,.int .u64 0] 76 (0,0))):=⟨h1_⟩
    have n2_ : Aside0 (w13.heap[gb149]? = some (.cells #[.int .u64 0,.int .u64 0] 76 (0,0))):=⟨h2_⟩
    have n3_ : Aside0 (w.heap.size ≤ gb149):=⟨h3_⟩
    have n4_ : Aside0 (w.heap.size ≤ gb149):=⟨h4_⟩
    have n5_ : Aside0 (gb142 ≠ gb149):=⟨h5_⟩
    have n6_ : Aside0 (gb149 ≠ gb142):=⟨h6_⟩
    have n7_ : Aside0 (gb143 ≠ gb149):=⟨h7_⟩
    have n8_ : Aside0 (gb149 ≠ gb143):=⟨h8_⟩
    have n9_ : Aside0 (Below w.heap.size w w13):=⟨h9_⟩
    clear BK142 BK143 HB h0_ h1_ h2_ h3_ h4_ h5_ h6_ h7_ h8_ h9_;have BK142:=n0_;have BK143:=n1_;have BK149:=n2_;have GW149:=n3_;have GE149:=n4_;have NB142_149:=n5_;have NB149_142:=n6_;have NB143_149:=n7_;have NB149_143:=n8_;have HB:=n9_;clear n0_ n1_ n2_ n3_ n4_ n5_ n6_ n7_ n8_ n9_
    have hHeld : w13.cell? ⟨gb142,0,none⟩ = some (.int .u64 a0_0) ∧ w13.cell? ⟨gb142,1,none⟩ = some (.int .u64 a0_1):=hS_
    refine norm_ (a':=?_) ?_ ?_
    rotate_left
    ·simp only [putAll,Act.put,List.setIfInBounds_toArray,List.set_cons_zero,List.set_cons_succ]
     rfl
    refine one_ (i:=8) (N:=some 6) #[yy,yy,yy,yy,yy,yy,yy,yy,yy,yy,nn,nn] rfl rfl (one_of HT_.out (by kernel_rfl)) (by decide) (fun K hK => ?_)
    refine box_step ?hg (N:=6) ?hd (cs:=#[.int .u64 0,.int .u64 0]) (t:=76) ?hr ?_;(case hd => rfl);(case hg => rfl);(case hr => first | (go_simp;done) | (go_simp;rfl))
    intro gb148 hg w14 hbox hb
    have n0_:=Am (blk_below (g:=gb142) kA hb);have n1_:=Am (blk_below (g:=gb143) kA hb);have n2_:=Am (blk_below (g:=gb149) kA hb);have n3_:=Am (below_step bA hb);have n4_:=Am (hbox);have n5_:=Am (gwA hg bA);have n6_:=Am (gwA hg bA);have n7_:=Am (neA (g:=gb142) hg kA);have n8_:=Am (neB (g:=gb142) hg kA);have n9_:=Am (neA (g:=gb143) hg kA);have n10_:=Am (neB (g:=gb143) hg kA);have n11_:=Am (neA (g:=gb149) hg kA);have n12_:=Am (neB (g:=gb149) hg kA);clear BK142 BK143 BK149 HB;have BK142:=n0_;have BK143:=n1_;have BK149:=n2_;have HB:=n3_;have BK148:=n4_;have GW148:=n5_;have GE148:=n6_;have NB142_148:=n7_;have NB148_142:=n8_;have NB143_148:=n9_;have NB148_143:=n10_;have NB149_148:=n11_;have NB148_149:=n12_;clear n0_ n1_ n2_ n3_ n4_ n5_ n6_ n7_ n8_ n9_ n10_ n11_ n12_ hb hbox hg
    refine hK.out _ _ ⟨(blk_cell BK142.out 0).trans rfl,(blk_cell BK142.out 1).trans rfl⟩ (fun hHeld => ?_)
    clear hK K
    refine norm_ (a':=?_) ?_ ?_
    rotate_left
    ·show Act.put _ (some 6) _ = _
     simp only [NR]
     rfl
    exact norm_ (by first | (simp only [putAll,Act.put,List.setIfInBounds_toArray,List.set_cons_zero,List.set_cons_succ];done) | (simp only [putAll,Act.put,List.setIfInBounds_toArray,List.set_cons_zero,List.set_cons_succ];rfl)) (hJ3_7_8_9 (gb148,gb149) _ ⟨hHeld,kA,kA,kA,kA,GW148.out,GE148.out,NB142_148.out,NB148_142.out,NB143_148.out,NB148_143.out,NB149_148.out,NB148_149.out,GW149.out,GE149.out,NB142_149.out,NB149_142.out,NB143_149.out,NB149_143.out,bA⟩)
  ·skip
   rintro gb148 w13 ⟨hS_,h0_,h1_,h2_,h3_,h4_,h5_,h6_,h7_,h8_,h9_⟩
   have n0_ : Aside0 (w13.heap[gb142]? = some (.cells #[.int .u64 a0_0,.int .u64 a0_1] 76 (0,0))):=⟨h0_⟩
   have n1_ : Aside0 (w13.heap[gb143]? = some (.cells #[.int .u64 0,.int .u64 0] 76 (0,0))):=⟨h1_⟩
   have n2_ : Aside0 (w13.heap[gb148]? = some (.cells #[.int .u64 0,.int .u64 0] 76 (0,0))):=⟨h2_⟩
   have n3_ : Aside0 (w.heap.size ≤ gb148):=⟨h3_⟩
   have n4_ : Aside0 (w.heap.size ≤ gb148):=⟨h4_⟩
   have n5_ : Aside0 (gb142 ≠ gb148):=⟨h5_⟩
   have n6_ : Aside0 (gb148 ≠ gb142):=⟨h6_⟩
   have n7_ : Aside0 (gb143 ≠ gb148):=⟨h7_⟩
   have n8_ : Aside0 (gb148 ≠ gb143):=⟨h8_⟩
   have n9_ : Aside0 (Below w.heap.size w w13):=⟨h9_⟩
   clear BK142 BK143 HB h0_ h1_ h2_ h3_ h4_ h5_ h6_ h7_ h8_ h9_;have BK142:=n0_;have BK143:=n1_;have BK148:=n2_;have GW148:=n3_;have GE148:=n4_;have NB142_148:=n5_;have NB148_142:=n6_;have NB143_148:=n7_;have NB148_143:=n8_;have HB:=n9_;clear n0_ n1_ n2_ n3_ n4_ n5_ n6_ n7_ n8_ n9_
   have hHeld : w13.cell? ⟨gb142,0,none⟩ = some (.int .u64 a0_0) ∧ w13.cell? ⟨gb142,1,none⟩ = some (.int .u64 a0_1):=hS_
   refine norm_ (a':=?_) ?_ ?_
   rotate_left
   ·simp only [putAll,Act.put,List.setIfInBounds_toArray,List.set_cons_zero,List.set_cons_succ]
    rfl
   refine one_ (i:=9) (N:=some 7) #[yy,yy,yy,yy,yy,yy,yy,yy,yy,yy,nn,nn] rfl rfl (one_of HT_.out (by kernel_rfl)) (by decide) (fun K hK => ?_)
   refine box_step ?hg (N:=7) ?hd (cs:=#[.int .u64 0,.int .u64 0]) (t:=76) ?hr ?_;(case hd => rfl);(case hg => rfl);(case hr => first | (go_simp;done) | (go_simp;rfl))
   intro gb149 hg w14 hbox hb
   have n0_:=Am (blk_below (g:=gb142) kA hb);have n1_:=Am (blk_below (g:=gb143) kA hb);have n2_:=Am (blk_below (g:=gb148) kA hb);have n3_:=Am (below_step bA hb);have n4_:=Am (hbox);have n5_:=Am (gwA hg bA);have n6_:=Am (gwA hg bA);have n7_:=Am (neA (g:=gb142) hg kA);have n8_:=Am (neB (g:=gb142) hg kA);have n9_:=Am (neA (g:=gb143) hg kA);have n10_:=Am (neB (g:=gb143) hg kA);have n11_:=Am (neA (g:=gb148) hg kA);have n12_:=Am (neB (g:=gb148) hg kA);clear BK142 BK143 BK148 HB;have BK142:=n0_;have BK143:=n1_;have BK148:=n2_;have HB:=n3_;have BK149:=n4_;have GW149:=n5_;have GE149:=n6_;have NB142_149:=n7_;have NB149_142:=n8_;have NB143_149:=n9_;have NB149_143:=n10_;have NB148_149:=n11_;have NB149_148:=n12_;clear n0_ n1_ n2_ n3_ n4_ n5_ n6_ n7_ n8_ n9_ n10_ n11_ n12_ hb hbox hg
   refine hK.out _ _ ⟨(blk_cell BK142.out 0).trans rfl,(blk_cell BK142.out 1).trans rfl⟩ (fun hHeld => ?_)
   clear hK K
   refine norm_ (a':=?_) ?_ ?_
   rotate_left
   ·show Act.put _ (some 7) _ = _
    simp only [NR]
    rfl
   exact norm_ (by first | (simp only [putAll,Act.put,List.setIfInBounds_toArray,List.set_cons_zero,List.set_cons_succ];done) | (simp only [putAll,Act.put,List.setIfInBounds_toArray,List.set_cons_zero,List.set_cons_succ];rfl)) (hJ3_7_8_9 (gb148,gb149) _ ⟨hHeld,kA,kA,kA,kA,GW148.out,GE148.out,NB142_148.out,NB148_142.out,NB143_148.out,NB148_143.out,NB149_148.out,NB148_149.out,GW149.out,GE149.out,NB142_149.out,NB149_142.out,NB143_149.out,NB149_143.out,bA⟩)
 rintro ⟨gb148,gb149⟩ w14 ⟨hS_,h0_,h1_,h2_,h3_,h4_,h5_,h6_,h7_,h8_,h9_,h10_,h11_,h12_,h13_,h14_,h15_,h16_,h17_,h18_⟩
 have n0_ : Aside0 (w14.heap[gb142]? = some (.cells #[.int .u64 a0_0,.int .u64 a0_1] 76 (0,0))):=⟨h0_⟩
 have n1_ : Aside0 (w14.heap[gb143]? = some (.cells #[.int .u64 0,.int .u64 0] 76 (0,0))):=⟨h1_⟩
 have n2_ : Aside0 (w14.heap[gb148]? = some (.cells #[.int .u64 0,.int .u64 0] 76 (0,0))):=⟨h2_⟩
 have n3_ : Aside0 (w14.heap[gb149]? = some (.cells #[.int .u64 0,.int .u64 0] 76 (0,0))):=⟨h3_⟩
 have n4_ : Aside0 (w.heap.size ≤ gb148):=⟨h4_⟩
 have n5_ : Aside0 (w.heap.size ≤ gb148):=⟨h5_⟩
 have n6_ : Aside0 (gb142 ≠ gb148):=⟨h6_⟩
 have n7_ : Aside0 (gb148 ≠ gb142):=⟨h7_⟩
 have n8_ : Aside0 (gb143 ≠ gb148):=⟨h8_⟩
 have n9_ : Aside0 (gb148 ≠ gb143):=⟨h9_⟩
 have n10_ : Aside0 (gb149 ≠ gb148):=⟨h10_⟩
 have n11_ : Aside0 (gb148 ≠ gb149):=⟨h11_⟩
 have n12_ : Aside0 (w.heap.size ≤ gb149):=⟨h12_⟩
 have n13_ : Aside0 (w.heap.size ≤ gb149):=⟨h13_⟩
 have n14_ : Aside0 (gb142 ≠ gb149):=⟨h14_⟩
 have n15_ : Aside0 (gb149 ≠ gb142):=⟨h15_⟩
 have n16_ : Aside0 (gb143 ≠ gb149):=⟨h16_⟩
 have n17_ : Aside0 (gb149 ≠ gb143):=⟨h17_⟩
 have n18_ : Aside0 (Below w.heap.size w w14):=⟨h18_⟩
 clear BK142 BK143 HB h0_ h1_ h2_ h3_ h4_ h5_ h6_ h7_ h8_ h9_ h10_ h11_ h12_ h13_ h14_ h15_ h16_ h17_ h18_;have BK142:=n0_;have BK143:=n1_;have BK148:=n2_;have BK149:=n3_;have GW148:=n4_;have GE148:=n5_;have NB142_148:=n6_;have NB148_142:=n7_;have NB143_148:=n8_;have NB148_143:=n9_;have NB149_148:=n10_;have NB148_149:=n11_;have GW149:=n12_;have GE149:=n13_;have NB142_149:=n14_;have NB149_142:=n15_;have NB143_149:=n16_;have NB149_143:=n17_;have HB:=n18_;clear n0_ n1_ n2_ n3_ n4_ n5_ n6_ n7_ n8_ n9_ n10_ n11_ n12_ n13_ n14_ n15_ n16_ n17_ n18_
 have hHeld : w14.cell? ⟨gb142,0,none⟩ = some (.int .u64 a0_0) ∧ w14.cell? ⟨gb142,1,none⟩ = some (.int .u64 a0_1):=hS_
 refine norm_ (a':=?_) ?_ ?_
 rotate_left
 ·simp only [putAll,Act.put,List.setIfInBounds_toArray,List.set_cons_zero,List.set_cons_succ]
  rfl
 refine one_ (i:=10) (N:=none) #[yy,yy,yy,yy,yy,yy,yy,yy,yy,yy,yy,nn] rfl rfl (one_of HT_.out (by kernel_rfl)) (by decide) (fun K hK => ?_)
 have hs15 : w14.cell? ⟨gb148,0,none⟩ = some (.int .u64 0):=(blk_cell BK148.out 0).trans rfl
 have hfs15:=blk_frozen BK148.out 0
 have hns15_0:=NB142_148.out
 have hns15_1:=NB143_148.out
 have hns15_3:=NB149_148.out
 have hms15_0:=NB148_142.out
 have hms15_1:=NB148_143.out
 have hms15_3:=NB148_149.out
 have hs16 : w14.cell? ⟨gb148,1,none⟩ = some (.int .u64 0):=(blk_cell BK148.out 1).trans rfl
 have hfs16:=blk_frozen BK148.out 1
 have hns16_0:=NB142_148.out
 have hns16_1:=NB143_148.out
 have hns16_3:=NB149_148.out
 have hms16_0:=NB148_142.out
 have hms16_1:=NB148_143.out
 have hms16_3:=NB148_149.out
 refine skip_ (w1:=?_) (by rfl) rfl ?_ ?_
 rotate_left
 ·go_simp
  rfl
 refine hK.out _ _ ⟨((cell_far (p:=⟨gb148,_,none⟩) NB142_148.out _).trans (((cell_far (p:=⟨gb148,_,none⟩) NB142_148.out _).trans (hHeld.1)))),((cell_far (p:=⟨gb148,_,none⟩) NB142_148.out _).trans (((cell_far (p:=⟨gb148,_,none⟩) NB142_148.out _).trans (hHeld.2))))⟩ (fun hHeld => ?_)
 clear hK K
 refine one_ (i:=11) (N:=none) #[yy,yy,yy,yy,yy,yy,yy,yy,yy,yy,yy,yy] rfl rfl (one_of HT_.out (by kernel_rfl)) (by decide) (fun K hK => ?_)
 have hs17 : w14.cell? ⟨gb149,0,none⟩ = some (.int .u64 0):=(blk_cell BK149.out 0).trans rfl
 have hfs17:=blk_frozen BK149.out 0
 have hns17_0:=NB142_149.out
 have hns17_1:=NB143_149.out
 have hns17_2:=NB148_149.out
 have hms17_0:=NB149_142.out
 have hms17_1:=NB149_143.out
 have hms17_2:=NB149_148.out
 have hs18 : w14.cell? ⟨gb149,1,none⟩ = some (.int .u64 0):=(blk_cell BK149.out 1).trans rfl
 have hfs18:=blk_frozen BK149.out 1
 have hns18_0:=NB142_149.out
 have hns18_1:=NB143_149.out
 have hns18_2:=NB148_149.out
 have hms18_0:=NB149_142.out
 have hms18_1:=NB149_143.out
 have hms18_2:=NB149_148.out
 refine skip_ (w1:=?_) (by rfl) rfl ?_ ?_
 rotate_left
 ·go_simp
  rfl
 refine hK.out _ _ ⟨((cell_far (p:=⟨gb149,_,none⟩) NB142_149.out _).trans (((cell_far (p:=⟨gb149,_,none⟩) NB142_149.out _).trans (hHeld.1)))),((cell_far (p:=⟨gb149,_,none⟩) NB142_149.out _).trans (((cell_far (p:=⟨gb149,_,none⟩) NB142_149.out _).trans (hHeld.2))))⟩ (fun hHeld => ?_)
 clear hK K
 refine done_ (done_of HT_.out (by kernel_rfl)) ?_
 have hnb19:=NB149_142.out
 have hnc19:=NB142_149.out
 have hnb20:=NB149_143.out
 have hnc20:=NB143_149.out
 have hnb21:=NB149_148.out
 have hnc21:=NB148_149.out
 have hcz22_0 : w14.cell? ⟨gb149,0,none⟩ = some (.int .u64 0):=(blk_cell BK149.out 0).trans rfl
 have hcz22_1 : w14.cell? ⟨gb149,1,none⟩ = some (.int .u64 0):=(blk_cell BK149.out 1).trans rfl
 have hfz22_0:=blk_frozen BK149.out 0
 have hfz22_1:=blk_frozen BK149.out 1
 by_cases c5 : t146 > 0
 ·rw [if_pos c5] at H
  have c5b0 : decide (0 < t146) = true:=decide_eq_true c5
  clear c5;replace H:=Option.bind_eq_some_iff.mp H;obtain ⟨⟨t150,t151⟩,A60,H⟩:=H;replace H : (some (t150,t151,false)) = some (r1,r2,r3):=H;have A6:=Aside0.mk A60;clear A60
  simp only [Option.some.injEq,Prod.mk.injEq] at H
  obtain ⟨rfl,rfl,rfl⟩:=H
  try go_wp2_with (first | ((with_reducible refine gate_callee (f:=73) rfl ?_);refine goesL_ (some 19) rfl rfl Tryd.func73 (by kernel_rfl) rfl #[] rfl aA ?_;(with_reducible refine (wide_greatest.calls  t150 t151 _ A6.out).mono ?_);rintro e w23 ⟨rfl,hb⟩;refine ⟨_,rfl,?_⟩;have n0_:=Am (blk_below (g:=gb142) (o:=.cells #[.int .u64 a0_0,.int .u64 a0_1] 76 (0,0)) (by (with_reducible repeat (first | refine b1 ?_ _ | refine b2 ?_ | refine b3 ?_ _));refine blk_far ?_ NB142_149.out _;(with_reducible repeat (first | refine b1 ?_ _ | refine b2 ?_ | refine b3 ?_ _));refine blk_far ?_ NB142_149.out _;(with_reducible repeat (first | refine b1 ?_ _ | refine b2 ?_ | refine b3 ?_ _));refine blk_far ?_ NB142_148.out _;(with_reducible repeat (first | refine b1 ?_ _ | refine b2 ?_ | refine b3 ?_ _));refine blk_far ?_ NB142_148.out _;exact kA) hb);have n1_:=Am (blk_below (g:=gb143) (o:=.cells #[.int .u64 0,.int .u64 0] 76 (0,0)) (by (with_reducible repeat (first | refine b1 ?_ _ | refine b2 ?_ | refine b3 ?_ _));refine blk_far ?_ NB143_149.out _;(with_reducible repeat (first | refine b1 ?_ _ | refine b2 ?_ | refine b3 ?_ _));refine blk_far ?_ NB143_149.out _;(with_reducible repeat (first | refine b1 ?_ _ | refine b2 ?_ | refine b3 ?_ _));refine blk_far ?_ NB143_148.out _;(with_reducible repeat (first | refine b1 ?_ _ | refine b2 ?_ | refine b3 ?_ _));refine blk_far ?_ NB143_148.out _;exact kA) hb);have n2_:=Am (blk_below (g:=gb148) (o:=.cells #[.int .u64 t144,.int .u64 t145] 76 (0,0)) (by (with_reducible repeat (first | refine b1 ?_ _ | refine b2 ?_ | refine b3 ?_ _));refine blk_far ?_ NB148_149.out _;(with_reducible repeat (first | refine b1 ?_ _ | refine b2 ?_ | refine b3 ?_ _));refine blk_far ?_ NB148_149.out _;(with_reducible repeat (first | refine b1 ?_ _ | refine b2 ?_ | refine b3 ?_ _));refine blk_put (cs:=#[.int .u64 t144,.int .u64 0]) ?_ 1 _ rfl;(with_reducible repeat (first | refine b1 ?_ _ | refine b2 ?_ | refine b3 ?_ _));refine blk_put (cs:=#[.int .u64 0,.int .u64 0]) ?_ 0 _ rfl;exact kA) hb);have n3_:=Am (blk_below (g:=gb149) (o:=.cells #[.int .u64 t146,.int .u64 t147] 76 (0,0)) (by (with_reducible repeat (first | refine b1 ?_ _ | refine b2 ?_ | refine b3 ?_ _));refine blk_put (cs:=#[.int .u64 t146,.int .u64 0]) ?_ 1 _ rfl;(with_reducible repeat (first | refine b1 ?_ _ | refine b2 ?_ | refine b3 ?_ _));refine blk_put (cs:=#[.int .u64 0,.int .u64 0]) ?_ 0 _ rfl;(with_reducible repeat (first | refine b1 ?_ _ | refine b2 ?_ | refine b3 ?_ _));refine blk_far ?_ NB149_148.out _;(with_reducible repeat (first | refine b1 ?_ _ | refine b2 ?_ | refine b3 ?_ _));refine blk_far ?_ NB149_148.out _;exact kA) hb);have n4_:=Am (below_step bA hb);clear BK142 BK143 BK148 BK149 HB;have BK142:=n0_;have BK143:=n1_;have BK148:=n2_;have BK149:=n3_;have HB:=n4_;clear n0_ n1_ n2_ n3_ n4_;(try clear hb);have hnb24:=NB143_142.out;have hnc24:=NB142_143.out;have hnb25:=NB143_148.out;have hnc25:=NB148_143.out;have hcz26_0 : w23.cell? ⟨gb143,0,none⟩ = some (.int .u64 0):=(blk_cell BK143.out 0).trans rfl;have hcz26_1 : w23.cell? ⟨gb143,1,none⟩ = some (.int .u64 0):=(blk_cell BK143.out 1).trans rfl;have hfz26_0:=blk_frozen BK143.out 0;have hfz26_1:=blk_frozen BK143.out 1))
  refine bodyPost_ret (results_ct rfl _ _ gb143 76 #[.int .u64 t150,.int .u64 t151] (0,0) _ rfl (by (with_reducible repeat (first | refine b1 ?_ _ | refine b2 ?_ | refine b3 ?_ _));refine blk_put (cs:=#[.int .u64 t150,.int .u64 0]) ?_ 1 _ rfl;(with_reducible repeat (first | refine b1 ?_ _ | refine b2 ?_ | refine b3 ?_ _));refine blk_put (cs:=#[.int .u64 0,.int .u64 0]) ?_ 0 _ rfl;exact kA) Tryd.underlying76 rfl (by kernel_rfl)) rfl ?_
  exact ⟨by first | rfl | (simp [errW_none,errW_some] <;> rfl) | (simp [*,errW_none,errW_some] <;> rfl),bA⟩
 ·rw [if_neg c5] at H
  have c5b0 : decide (0 < t146) = false:=decide_eq_false c5
  clear c5;replace H:=Option.bind_eq_some_iff.mp H;obtain ⟨⟨t152,t153,t154⟩,A270,H⟩:=H;replace H : (some (t152,t153,t154)) = some (r1,r2,r3):=H;have A27:=Aside0.mk A270;clear A270
  simp only [Option.some.injEq,Prod.mk.injEq] at H
  obtain ⟨rfl,rfl,rfl⟩:=H
  have hnb44:=NB148_142.out
  have hnc44:=NB142_148.out
  have hnb45:=NB148_143.out
  have hnc45:=NB143_148.out
  have hcz46_0 : w14.cell? ⟨gb148,0,none⟩ = some (.int .u64 0):=(blk_cell BK148.out 0).trans rfl
  have hcz46_1 : w14.cell? ⟨gb148,1,none⟩ = some (.int .u64 0):=(blk_cell BK148.out 1).trans rfl
  have hfz46_0:=blk_frozen BK148.out 0
  have hfz46_1:=blk_frozen BK148.out 1
  try go_wp2_with (first | ((with_reducible refine gate_callee (f:=46) rfl ?_);refine goesL_ (some 24) rfl rfl Tryd.func46 (by kernel_rfl) rfl #[.agg #[.int .u64 t144,.int .u64 t145],.agg #[.int .u64 t147,.int .u64 0]] rfl aA ?_;(with_reducible refine (wide_Add.calls t144 t145 t147 0 t152 t153 t154 _ A27.out).mono ?_);rintro e w47 ⟨rfl,hb⟩;refine ⟨_,rfl,?_⟩;have n0_:=Am (blk_below (g:=gb142) (o:=.cells #[.int .u64 a0_0,.int .u64 a0_1] 76 (0,0)) (by (with_reducible repeat (first | refine b1 ?_ _ | refine b2 ?_ | refine b3 ?_ _));refine blk_far ?_ NB142_149.out _;(with_reducible repeat (first | refine b1 ?_ _ | refine b2 ?_ | refine b3 ?_ _));refine blk_far ?_ NB142_149.out _;(with_reducible repeat (first | refine b1 ?_ _ | refine b2 ?_ | refine b3 ?_ _));refine blk_far ?_ NB142_148.out _;(with_reducible repeat (first | refine b1 ?_ _ | refine b2 ?_ | refine b3 ?_ _));refine blk_far ?_ NB142_148.out _;exact kA) hb);have n1_:=Am (blk_below (g:=gb143) (o:=.cells #[.int .u64 0,.int .u64 0] 76 (0,0)) (by (with_reducible repeat (first | refine b1 ?_ _ | refine b2 ?_ | refine b3 ?_ _));refine blk_far ?_ NB143_149.out _;(with_reducible repeat (first | refine b1 ?_ _ | refine b2 ?_ | refine b3 ?_ _));refine blk_far ?_ NB143_149.out _;(with_reducible repeat (first | refine b1 ?_ _ | refine b2 ?_ | refine b3 ?_ _));refine blk_far ?_ NB143_148.out _;(with_reducible repeat (first | refine b1 ?_ _ | refine b2 ?_ | refine b3 ?_ _));refine blk_far ?_ NB143_148.out _;exact kA) hb);have n2_:=Am (blk_below (g:=gb148) (o:=.cells #[.int .u64 t144,.int .u64 t145] 76 (0,0)) (by (with_reducible repeat (first | refine b1 ?_ _ | refine b2 ?_ | refine b3 ?_ _));refine blk_far ?_ NB148_149.out _;(with_reducible repeat (first | refine b1 ?_ _ | refine b2 ?_ | refine b3 ?_ _));refine blk_far ?_ NB148_149.out _;(with_reducible repeat (first | refine b1 ?_ _ | refine b2 ?_ | refine b3 ?_ _));refine blk_put (cs:=#[.int .u64 t144,.int .u64 0]) ?_ 1 _ rfl;(with_reducible repeat (first | refine b1 ?_ _ | refine b2 ?_ | refine b3 ?_ _));refine blk_put (cs:=#[.int .u64 0,.int .u64 0]) ?_ 0 _ rfl;exact kA) hb);have n3_:=Am (blk_below (g:=gb149) (o:=.cells #[.int .u64 t146,.int .u64 t147] 76 (0,0)) (by (with_reducible repeat (first | refine b1 ?_ _ | refine b2 ?_ | refine b3 ?_ _));refine blk_put (cs:=#[.int .u64 t146,.int .u64 0]) ?_ 1 _ rfl;(with_reducible repeat (first | refine b1 ?_ _ | refine b2 ?_ | refine b3 ?_ _));refine blk_put (cs:=#[.int .u64 0,.int .u64 0]) ?_ 0 _ rfl;(with_reducible repeat (first | refine b1 ?_ _ | refine b2 ?_ | refine b3 ?_ _));refine blk_far ?_ NB149_148.out _;(with_reducible repeat (first | refine b1 ?_ _ | refine b2 ?_ | refine b3 ?_ _));refine blk_far ?_ NB149_148.out _;exact kA) hb);have n4_:=Am (below_step bA hb);clear BK142 BK143 BK148 BK149 HB;have BK142:=n0_;have BK143:=n1_;have BK148:=n2_;have BK149:=n3_;have HB:=n4_;clear n0_ n1_ n2_ n3_ n4_;(try clear hb);have hnb48:=NB143_142.out;have hnc48:=NB142_143.out;have hcz49_0 : w47.cell? ⟨gb143,0,none⟩ = some (.int .u64 0):=(blk_cell BK143.out 0).trans rfl;have hcz49_1 : w47.cell? ⟨gb143,1,none⟩ = some (.int .u64 0):=(blk_cell BK143.out 1).trans rfl;have hfz49_0:=blk_frozen BK143.out 0;have hfz49_1:=blk_frozen BK143.out 1))
  refine bodyPost_ret (results_ct rfl _ _ gb143 76 #[.int .u64 t152,.int .u64 t153] (0,0) _ rfl (by (with_reducible repeat (first | refine b1 ?_ _ | refine b2 ?_ | refine b3 ?_ _));refine blk_put (cs:=#[.int .u64 t152,.int .u64 0]) ?_ 1 _ rfl;(with_reducible repeat (first | refine b1 ?_ _ | refine b2 ?_ | refine b3 ?_ _));refine blk_put (cs:=#[.int .u64 0,.int .u64 0]) ?_ 0 _ rfl;exact kA) Tryd.underlying76 rfl (by kernel_rfl)) rfl ?_
  exact ⟨by first | rfl | (simp [errW_none,errW_some] <;> rfl) | (simp [*,errW_none,errW_some] <;> rfl),bA⟩

end Go.Proofs.YtbhijfbjdbjpbaaDoor.GSH
