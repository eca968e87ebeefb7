-- Laid by a program of this session (wip/tools/pr.py): contracts and pure functions; Lean checks it.
import Derived.Test.YtmgmggkebmgafaaDoorGKx0
namespace Go.Proofs.YtmgmggkebmgafaaDoor.GK
open Go.RowKit Go.Proofs.YtmgmggkebmgafaaDoorW.PrintWords Go.Proofs.YtmgmggkebmgafaaDoorW.PrintLast Go.Proofs.YtmgmggkebmgafaaDoorW.PrintMore
attribute [local go_sem] max2_int min2_int max_two min_two max_three min_three max_four min_four   -- for this text's walks alone
set_option linter.unusedVariables false
set_option linter.unusedSimpArgs false

/-- A call of a function without a body, at which the model itself answers: it runs here and now. -/
def CallsX (P : Program) (f : FuncId) (args : Array Value) (w : World) (R : Ending → World → Prop) : Prop := ∃ v w', (callFunc f args).run P w = .ok (.value v) w' ∧ R (.returned v) w'
theorem CallsX.mono {P : Program} {f : FuncId} {args : Array Value} {w : World} {R R' : Ending → World → Prop} (h : CallsX P f args w R) (hr : ∀ e w', R e w' → R' e w') : CallsX P f args w R' := by
 obtain ⟨v, w', h1, h2⟩ := h
 exact ⟨v, w', h1, hr _ _ h2⟩
theorem goesX_ {P : Program} {ops : Array Oper} {Q : Exit → Act → World → Prop} {rest : List Oper} {oi : Oper} {a : Act} {w : World} (N : Option Tmp) (hd : oi.dst = N) (hg : oi.guard = none) {f : FuncId} {xs : Array Operand} {ts : Array TypeId} (args : Array Value)
  (hop : oi.op = .call { callee := .value (.func f), args := xs, argTypes := ts }) (hargs : xs.map a.eval = args)
  (h : CallsX P f args w fun e w' => ∃ v, e = .returned v ∧ wpList P ops Q rest (a.put N v) w') : wpList P ops Q (oi :: rest) a w := by
 refine wpList_plain hg fun K hK => ?_
 obtain ⟨v, w', he, v', hv, hk⟩ := h
 have hv' : v = v' := by injection hv
 subst hv'
 have hrun : (execOp a.eval oi).run P w = .ok (.value v) w' := by
  unfold execOp
  simp [hop, resolve, Deferred.ofValue, invoke, Act.eval, hargs, he]
 unfold Oper.wp
 rw [hrun]
 subst hd
 exact hK _ _ hk

/-- The Rungs, as the program's text lays them. -/
def rungsL : List Int := [13043817825332782212, 15511800964685064948, 16915738899553466670, 17664662643191237676, 18051468387014017850, 18248035989933441396, 18347121020861646923, 18396865112328554660, 18421787711448657617, 18434261669329232139, 18440501815349552981, 18443622680442407997, 18445183311048607331, 18445963675871538003, 18446353870663572144, 18446548971154807801, 18446646522174239824, 18446695297877410578, 18446719685777359790, 18446731879739425373, 18446737976723480911, 18446741025216264367, 18446742549462845017, 18446743311586182573, 18446743692647863158, 18446743883178706403, 18446743978444128763, 18446744026076840128, 18446744049893195856, 18446744061801373732, 18446744067755462673, 18446744070732507144]
/-- The variable 'rungs' of package ladder holds them. -/
def LaidW (w : World) : Prop := ∀ j : Nat, j < 32 → w.cell? ⟨0, j, none⟩ = some (.int .u64 (rd rungsL (j : Int)))
theorem laid_below {w w1 : World} (hL : LaidW w) (hb : Below w.heap.size w w1) : LaidW w1 := fun j hj => pw_cell_below hb (hL j hj)
theorem laid_at {w : World} (hL : LaidW w) (i : Int) (h0 : 0 ≤ i) (h1 : i < 32) : w.cell? ⟨0, i.toNat, none⟩ = some (.int .u64 (rd rungsL i)) := by
 have := hL i.toNat (by omega)
 rwa [Int.toNat_of_nonneg h0] at this

/-! ### bits_Mul64: function 42 -/
def bits_Mul64.f (a0 : Int) (a1 : Int) : Option (Int × Int) := some (IntKind.u64.wrap ((IntKind.u64.wrap ((IntKind.u64.wrap ((a0 / 4294967296) * (a1 / 4294967296))) + ((IntKind.u64.wrap ((IntKind.u64.wrap ((a0 / 4294967296) * (Go.bits .and .u64 a1 4294967295))) + ((IntKind.u64.wrap ((Go.bits .and .u64 a0 4294967295) * (Go.bits .and .u64 a1 4294967295))) / 4294967296))) / 4294967296))) + ((IntKind.u64.wrap ((Go.bits .and .u64 (IntKind.u64.wrap ((IntKind.u64.wrap ((a0 / 4294967296) * (Go.bits .and .u64 a1 4294967295))) + ((IntKind.u64.wrap ((Go.bits .and .u64 a0 4294967295) * (Go.bits .and .u64 a1 4294967295))) / 4294967296))) 4294967295) + (IntKind.u64.wrap ((Go.bits .and .u64 a0 4294967295) * (a1 / 4294967296))))) / 4294967296)), IntKind.u64.wrap (a0 * a1))
set_option maxHeartbeats 8000000 in
set_option maxRecDepth 100000 in
theorem bits_Mul64.calls (a0 : Int) (a1 : Int) (r1 : Int) (r2 : Int) (w : World) (h : bits_Mul64.f a0 a1 = some (r1, r2)) :
  Calls Tryd.prog 42 #[.int .u64 a0, .int .u64 a1] w fun e w' => e = .returned (.tuple #[.int .u64 r1, .int .u64 r2]) ∧ Drawn0 w w' := by
 have H : (some (IntKind.u64.wrap ((IntKind.u64.wrap ((IntKind.u64.wrap ((a0 / 4294967296) * (a1 / 4294967296))) + ((IntKind.u64.wrap ((IntKind.u64.wrap ((a0 / 4294967296) * (Go.bits .and .u64 a1 4294967295))) + ((IntKind.u64.wrap ((Go.bits .and .u64 a0 4294967295) * (Go.bits .and .u64 a1 4294967295))) / 4294967296))) / 4294967296))) + ((IntKind.u64.wrap ((Go.bits .and .u64 (IntKind.u64.wrap ((IntKind.u64.wrap ((a0 / 4294967296) * (Go.bits .and .u64 a1 4294967295))) + ((IntKind.u64.wrap ((Go.bits .and .u64 a0 4294967295) * (Go.bits .and .u64 a1 4294967295))) / 4294967296))) 4294967295) + (IntKind.u64.wrap ((Go.bits .and .u64 a0 4294967295) * (a1 / 4294967296))))) / 4294967296)), IntKind.u64.wrap (a0 * a1))) = some (r1, r2) := h
 clear h
 simp only [Option.some.injEq, Prod.mk.injEq] at H
 obtain ⟨rfl, rfl⟩ := H
 go_enter Tryd.func42, Tryd.ntmps42
 go_wp2
 go_ret2
 exact ⟨by first | rfl | (simp; done) | (simp [*]; done), by repeat (first | exact Drawn0.refl _ | apply Drawn0.step)⟩

/-! ### wide_Mul: function 33 -/
def wide_Mul.f (a0 : Int) (a1 : Int) : Option (Int × Int) := (bits_Mul64.f a0 a1).bind fun bt102 => (some (bt102.1, bt102.2))
set_option maxHeartbeats 8000000 in
set_option maxRecDepth 100000 in
theorem wide_Mul.calls (a0 : Int) (a1 : Int) (r1 : Int) (r2 : Int) (w : World) (h : wide_Mul.f a0 a1 = some (r1, r2)) :
  Calls Tryd.prog 33 #[.int .u64 a0, .int .u64 a1] w fun e w' => e = .returned (.agg #[.int .u64 r1, .int .u64 r2]) ∧ Below w.heap.size w w' := by
 have hu54 := Tryd.underlying54
 have HB := Aside0.mk (Below.refl w.heap.size w)
 have H : ((bits_Mul64.f a0 a1).bind fun bt102 => (some (bt102.1, bt102.2))) = some (r1, r2) := h
 clear h; replace H := Option.bind_eq_some_iff.mp H; obtain ⟨⟨t102, t103⟩, A30, H⟩ := H; replace H : (some (t102, t103)) = some (r1, r2) := H; have A3 := Aside0.mk A30; clear A30
 simp only [Option.some.injEq, Prod.mk.injEq] at H
 obtain ⟨rfl, rfl⟩ := H
 go_enter Tryd.func33, Tryd.ntmps33
 go_wp2_with (first | ((with_reducible refine gate_dst (N := 4) rfl ?_); refine bxA 4 #[.int .u64 0, .int .u64 0] 54 ?_; intro gb101 hg w4 hbox hb; have n0_ := Aside0.mk (below_step bA hb); have n1_ := Aside0.mk (hbox); have n2_ := Aside0.mk ((by rw [hg]; exact (below_size bA) : w.heap.size ≤ gb101)); have n3_ := Aside0.mk ((by rw [hg]; exact (below_size bA) : w.heap.size ≤ gb101)); clear HB; have HB := n0_; have BK101 := n1_; have GW101 := n2_; have GE101 := n3_; clear n0_ n1_ n2_ n3_ hb hbox hg) | ((with_reducible refine gate_callee (f := 42) rfl ?_); refine goesL_ (some 10) rfl rfl Tryd.func42 (by kernel_rfl) rfl #[.int .u64 a0, .int .u64 a1] rfl aA ?_; (with_reducible refine (bits_Mul64.calls a0 a1 t102 t103 _ A3.out).mono ?_); rintro e w' ⟨rfl, ⟨nd, rfl⟩⟩; refine ⟨_, rfl, ?_⟩; (try (rw [drewN_self w4]; generalize hq_ : World.drewN w4 _ = w4; have n0_ : Aside0 (w4.heap[gb101]? = some (.cells #[.int .u64 0, .int .u64 0] 54 (0, 0))) := ⟨by rw [← hq_]; exact kA⟩; have n1_ : Aside0 (Below w.heap.size w w4) := ⟨by rw [← hq_]; exact bA⟩; clear BK101 HB hq_; have BK101 := n0_; have HB := n1_; clear n0_ n1_)); have hcz5_0 : w4.cell? ⟨gb101, 0, none⟩ = some (.int .u64 0) := (blk_cell BK101.out 0).trans rfl; have hcz5_1 : w4.cell? ⟨gb101, 1, none⟩ = some (.int .u64 0) := (blk_cell BK101.out 1).trans rfl; have hfz5_0 := blk_frozen BK101.out 0; have hfz5_1 := blk_frozen BK101.out 1))
 refine bodyPost_ret (results_cell_row rfl _ _ gb101 54 #[.int .u64 t102, .int .u64 t103] (0, 0) _ rfl (by (with_reducible repeat (first | refine blk_drewN ?_ _ | refine blk_drew ?_ | refine blk_alloc ?_ _)); refine blk_put (cs := #[.int .u64 t102, .int .u64 0]) ?_ 1 _ rfl; (with_reducible repeat (first | refine blk_drewN ?_ _ | refine blk_drew ?_ | refine blk_alloc ?_ _)); refine blk_put (cs := #[.int .u64 0, .int .u64 0]) ?_ 0 _ rfl; (with_reducible repeat (first | refine blk_drewN ?_ _ | refine blk_drew ?_ | refine blk_alloc ?_ _)); exact BK101.out) Tryd.underlying54 rfl (by kernel_rfl)) rfl ?_
 exact ⟨by first | rfl | (simp [errW_none, errW_some] <;> rfl) | (simp [*, errW_none, errW_some] <;> rfl), bA⟩

/-! ### ladder_Half: function 19 -/
def ladder_Half.go : Nat → Int → Int → Option Int
 | 0, _, t => some t
 | d + 1, e, t => if Go.bits .and .u64 e (IntKind.u64.wrap (2 ^ d)) = 0 then ladder_Half.go d e t else (wide_Mul.f t (rd rungsL ((31 - d : Nat) : Int))).bind fun p => ladder_Half.go d e p.1
/-- One half to the power of e / 2^32. -/
def ladder_Half.f (a0 : Int) : Option Int := if a0 / 4294967296 ≥ 63 then some 0 else (if 0 ≤ a0 then (ladder_Half.go 32 a0 9223372036854775808).bind fun t => some (t / 2 ^ (a0 / 4294967296).toNat) else none)
set_option maxHeartbeats 8000000 in
set_option maxRecDepth 100000 in
theorem ladder_Half.calls (a0 : Int) (r : Int) (w : World) (hL : LaidW w) (h : ladder_Half.f a0 = some r) :
  Calls Tryd.prog 19 #[.int .u64 a0] w fun e w' => e = .returned (.int .u64 r) ∧ Below w.heap.size w w' := by
 have hfd : ∀ (x y : Int) (W : World), (Instr.field 54 (.agg #[.int .u64 x, .int .u64 y]) 0).run Tryd.prog W = .ok (.int .u64 x) W := by intros; kernel_rfl
 have HB := Aside0.mk (Below.refl w.heap.size w)
 have H : (if a0 / 4294967296 ≥ 63 then some 0 else (if 0 ≤ a0 then (ladder_Half.go 32 a0 9223372036854775808).bind fun t => some (t / 2 ^ (a0 / 4294967296).toNat) else none)) = some r := h
 clear h
 by_cases c2 : a0 / 4294967296 ≥ 63
 ·rw [if_pos c2] at H
  have c2b0 : decide (63 ≤ (a0 / 4294967296)) = true := decide_eq_true c2
  clear c2
  obtain rfl := Option.some.inj H
  go_enter Tryd.func19, Tryd.ntmps19
  go_wp2
  go_ret
  exact ⟨rfl, bA⟩
 ·rw [if_neg c2] at H
  by_cases c3 : 0 ≤ a0
  ·rw [if_pos c3] at H
   have c2b0 : decide (63 ≤ (a0 / 4294967296)) = false := decide_eq_false c2
   have q0 : 0 ≤ a0 / 4294967296 := by omega
   have q1 : a0 / 4294967296 ≤ 62 := by omega
   clear c2
   obtain ⟨t, A30, H⟩ := Option.bind_eq_some_iff.mp H
   have A3 := Aside0.mk A30; clear A30
   have H' := Aside0.mk (Option.some.inj H)
   clear H
   go_enter Tryd.func19, Tryd.ntmps19
   go_wp2
   go_loopg [4, 10] 32 (fun kq v4 v10 w' => ∃ (x4 : Int) (j : Nat), v4 = .int .u64 x4 ∧ v10 = .int .i64 (j : Int) ∧ Aside0 (j + kq = 32) ∧ j ≤ 32 ∧ Aside0 (ladder_Half.go kq a0 x4 = some t) ∧ Aside0 (Below w.heap.size w w'))
   case atStart => exact ⟨9223372036854775808, 0, rfl, rfl, ⟨rfl⟩, by omega, A3, ⟨bA⟩⟩
   case round =>
    obtain ⟨x4, j, rfl, rfl, HD, hj, HA, HB⟩ := hrel
    cases gk with
    | zero =>
     have HD := HD.out
     have hx : x4 = t := Option.some.inj HA.out
     subst hx
     obtain rfl : j = 32 := by omega
     clear HD
     go_wp2
     go_ret
     exact ⟨by rw [← H'.out]; rfl, bA⟩
    | succ d =>
     have HD1 := HD.out
     have hj31 : j ≤ 31 := by omega
     have hlt : decide ((j : Int) < 32) = true := decide_eq_true (by omega)
     obtain rfl : d = 31 - j := by omega
     have hc : wr.cell? ⟨0, j, none⟩ = some (.int .u64 (rd rungsL (j : Int))) := laid_below hL HB.out j (by omega)
     have H := HA.out
     clear HA HD1 HD
     simp only [ladder_Half.go] at H
     rw [show 31 - (31 - j) = j by omega] at H
     by_cases c5 : Go.bits .and .u64 a0 (IntKind.u64.wrap (2 ^ (31 - j))) = 0
     ·rw [if_pos c5] at H
      have c5b1 : (Go.bits .and .u64 a0 (IntKind.u64.wrap (2 ^ (31 - j))) != 0) = false := bne_eq_false_iff_eq.mpr c5
      clear c5
      have H2 := Aside0.mk H
      clear H
      go_wp2
      go_roundg (31 - j)
      case measure => omega
      case rel => exact ⟨x4, j + 1, rfl, by go_num, ⟨by omega⟩, by omega, H2, ⟨bA⟩⟩
     ·rw [if_neg c5] at H
      have c5b1 : (Go.bits .and .u64 a0 (IntKind.u64.wrap (2 ^ (31 - j))) != 0) = true := bne_iff_ne.mpr c5
      clear c5
      obtain ⟨⟨p1, p2⟩, A130, H⟩ := Option.bind_eq_some_iff.mp H
      have A13 := Aside0.mk A130
      have H2 := Aside0.mk H
      clear A130 H
      go_wp2_with (first | ((with_reducible refine gate_callee (f := 33) rfl ?_); refine goesL_ (some 23) rfl rfl Tryd.func33 (by kernel_rfl) rfl #[.int .u64 x4, .int .u64 (rd rungsL (j : Int))] rfl aA ?_; (with_reducible refine (wide_Mul.calls x4 (rd rungsL (j : Int)) p1 p2 _ A13.out).mono ?_); rintro e w15 ⟨rfl, hb⟩; refine ⟨_, rfl, ?_⟩; have n1_ := Aside0.mk (below_step bA hb); clear HB; have HB := n1_; clear n1_ hb hc))
      go_roundg (31 - j)
      case measure => omega
      case rel => exact ⟨p1, j + 1, rfl, by go_num, ⟨by omega⟩, by omega, H2, ⟨bA⟩⟩
  ·rw [if_neg c3] at H
   cases H

/-! ### decay_Factor: function 24 -/
def decay_Factor.f (a0 : Int) (a1 : Int) : Option (Int × Int) := if a0 < 1 then (some (0, 100)) else (if a0 > 1048576 then (some (0, 100)) else (if a1 < 1 then (some (0, 100)) else (if a1 > 1073741824 then (some (0, 100)) else (if (IntKind.u64.wrap (a1)) = 0 then (none) else ((ladder_Half.f (IntKind.u64.wrap (Int.tdiv (IntKind.u64.wrap ((IntKind.u64.wrap (a0)) * 4294967296)) (IntKind.u64.wrap (a1))))).bind fun t104 => (some (t104, 0)))))))
set_option maxHeartbeats 8000000 in
set_option maxRecDepth 100000 in
theorem decay_Factor.calls (a0 : Int) (a1 : Int) (r1 : Int) (r2 : Int) (w : World) (hL : LaidW w) (h : decay_Factor.f a0 a1 = some (r1, r2)) :
  Calls Tryd.prog 24 #[.int .i64 a0, .int .i64 a1] w fun e w' => e = .returned (.tuple #[.int .u64 r1, .int .i64 r2]) ∧ Below w.heap.size w w' := by
 have HB := Aside0.mk (Below.refl w.heap.size w)
 have H : (if a0 < 1 then (some (0, 100)) else (if a0 > 1048576 then (some (0, 100)) else (if a1 < 1 then (some (0, 100)) else (if a1 > 1073741824 then (some (0, 100)) else (if (IntKind.u64.wrap (a1)) = 0 then (none) else ((ladder_Half.f (IntKind.u64.wrap (Int.tdiv (IntKind.u64.wrap ((IntKind.u64.wrap (a0)) * 4294967296)) (IntKind.u64.wrap (a1))))).bind fun t104 => (some (t104, 0)))))))) = some (r1, r2) := h
 clear h
 by_cases c3 : a0 < 1
 ·rw [if_pos c3] at H
  have c3b0 : decide (a0 < 1) = true := decide_eq_true c3
  clear c3
  simp only [Option.some.injEq, Prod.mk.injEq] at H
  obtain ⟨rfl, rfl⟩ := H
  go_enter Tryd.func24, Tryd.ntmps24
  go_wp2
  go_ret2
  exact ⟨by first | rfl | (simp [errW_none, errW_some] <;> rfl) | (simp [*, errW_none, errW_some] <;> rfl), bA⟩
 ·rw [if_neg c3] at H
  have c3b0 : decide (a0 < 1) = false := decide_eq_false c3
  clear c3
  by_cases c4 : a0 > 1048576
  ·rw [if_pos c4] at H
   have c4b0 : decide (1048576 < a0) = true := decide_eq_true c4
   clear c4
   simp only [Option.some.injEq, Prod.mk.injEq] at H
   obtain ⟨rfl, rfl⟩ := H
   go_enter Tryd.func24, Tryd.ntmps24
   go_wp2
   go_ret2
   exact ⟨by first | rfl | (simp [errW_none, errW_some] <;> rfl) | (simp [*, errW_none, errW_some] <;> rfl), bA⟩
  ·rw [if_neg c4] at H
   have c4b0 : decide (1048576 < a0) = false := decide_eq_false c4
   clear c4
   by_cases c5 : a1 < 1
   ·rw [if_pos c5] at H
    have c5b0 : decide (a1 < 1) = true := decide_eq_true c5
    clear c5
    simp only [Option.some.injEq, Prod.mk.injEq] at H
    obtain ⟨rfl, rfl⟩ := H
    go_enter Tryd.func24, Tryd.ntmps24
    go_wp2
    go_ret2
    exact ⟨by first | rfl | (simp [errW_none, errW_some] <;> rfl) | (simp [*, errW_none, errW_some] <;> rfl), bA⟩
   ·rw [if_neg c5] at H
    have c5b0 : decide (a1 < 1) = false := decide_eq_false c5
    clear c5
    by_cases c6 : a1 > 1073741824
    ·rw [if_pos c6] at H
     have c6b0 : decide (1073741824 < a1) = true := decide_eq_true c6
     clear c6
     simp only [Option.some.injEq, Prod.mk.injEq] at H
     obtain ⟨rfl, rfl⟩ := H
     go_enter Tryd.func24, Tryd.ntmps24
     go_wp2
     go_ret2
     exact ⟨by first | rfl | (simp [errW_none, errW_some] <;> rfl) | (simp [*, errW_none, errW_some] <;> rfl), bA⟩
    ·rw [if_neg c6] at H
     have c6b0 : decide (1073741824 < a1) = false := decide_eq_false c6
     clear c6
     by_cases c7 : (IntKind.u64.wrap (a1)) = 0
     ·rw [if_pos c7] at H
      exact absurd H (by simp)
     ·rw [if_neg c7] at H
      have c7b0 : ((IntKind.u64.wrap (a1)) == 0) = false := beq_eq_false_iff_ne.mpr c7
      have c7b1 : ((IntKind.u64.wrap (a1)) != 0) = true := bne_iff_ne.mpr c7
      replace H := Option.bind_eq_some_iff.mp H; obtain ⟨t104, A80, H⟩ := H; replace H : (some (t104, 0)) = some (r1, r2) := H; have A8 := Aside0.mk A80; clear A80
      simp only [Option.some.injEq, Prod.mk.injEq] at H
      obtain ⟨rfl, rfl⟩ := H
      go_enter Tryd.func24, Tryd.ntmps24
      go_wp2_with (first | ((with_reducible refine gate_callee (f := 19) rfl ?_); refine goesL_ (some 26) rfl rfl Tryd.func19 (by kernel_rfl) rfl #[.int .u64 (IntKind.u64.wrap (Int.tdiv (IntKind.u64.wrap ((IntKind.u64.wrap (a0)) * 4294967296)) (IntKind.u64.wrap (a1))))] rfl aA ?_; (with_reducible refine (ladder_Half.calls (IntKind.u64.wrap (Int.tdiv (IntKind.u64.wrap ((IntKind.u64.wrap (a0)) * 4294967296)) (IntKind.u64.wrap (a1)))) t104 _ ?side1 A8.out).mono ?_); (case side1 => exact laid_below hL bA); rintro e w9 ⟨rfl, hb⟩; refine ⟨_, rfl, ?_⟩; have n0_ := Aside0.mk (below_step bA hb); clear HB; have HB := n0_; clear n0_; (try clear hb)))
      go_ret2
      exact ⟨by first | rfl | (simp [errW_none, errW_some] <;> rfl) | (simp [*, errW_none, errW_some] <;> rfl), bA⟩

/-! ### fixq_beyond: function 52 -/
def fixq_beyond.f  : Option (Int × Bool) := some (18446744073709551615, false)
set_option maxHeartbeats 8000000 in
set_option maxRecDepth 100000 in
theorem fixq_beyond.calls  (r1 : Int) (r2 : Bool) (w : World) (h : fixq_beyond.f  = some (r1, r2)) :
  Calls Tryd.prog 52 #[] w fun e w' => e = .returned (.agg #[.int .u64 r1, .bool r2]) ∧ Below w.heap.size w w' := by
 have hu63 := Tryd.underlying63
 have HB := Aside0.mk (Below.refl w.heap.size w)
 have H : (some (18446744073709551615, false)) = some (r1, r2) := h
 clear h
 simp only [Option.some.injEq, Prod.mk.injEq] at H
 obtain ⟨rfl, rfl⟩ := H
 go_enter Tryd.func52, Tryd.ntmps52
 go_wp2_with (first | ((with_reducible refine gate_dst (N := 0) rfl ?_); refine bxA 0 #[.int .u64 0, .bool false] 63 ?_; intro gb105 hg w1 hbox hb; have n0_ := Aside0.mk (below_step bA hb); have n1_ := Aside0.mk (hbox); have n2_ := Aside0.mk ((by rw [hg]; exact (below_size bA) : w.heap.size ≤ gb105)); have n3_ := Aside0.mk ((by rw [hg]; exact (below_size bA) : w.heap.size ≤ gb105)); clear HB; have HB := n0_; have BK105 := n1_; have GW105 := n2_; have GE105 := n3_; clear n0_ n1_ n2_ n3_ hb hbox hg; have hcz2_0 : w1.cell? ⟨gb105, 0, none⟩ = some (.int .u64 0) := (blk_cell BK105.out 0).trans rfl; have hcz2_1 : w1.cell? ⟨gb105, 1, none⟩ = some (.bool false) := (blk_cell BK105.out 1).trans rfl; have hfz2_0 := blk_frozen BK105.out 0; have hfz2_1 := blk_frozen BK105.out 1))
 refine bodyPost_ret (results_cell_row rfl _ _ gb105 63 #[.int .u64 18446744073709551615, .bool false] (0, 0) _ rfl (by (with_reducible repeat (first | refine blk_drewN ?_ _ | refine blk_drew ?_ | refine blk_alloc ?_ _)); refine blk_put (cs := #[.int .u64 18446744073709551615, .bool false]) ?_ 1 _ rfl; (with_reducible repeat (first | refine blk_drewN ?_ _ | refine blk_drew ?_ | refine blk_alloc ?_ _)); refine blk_put (cs := #[.int .u64 0, .bool false]) ?_ 0 _ rfl; (with_reducible repeat (first | refine blk_drewN ?_ _ | refine blk_drew ?_ | refine blk_alloc ?_ _)); exact BK105.out) Tryd.underlying63 rfl (by kernel_rfl)) rfl ?_
 exact ⟨by first | rfl | (simp [errW_none, errW_some] <;> rfl) | (simp [*, errW_none, errW_some] <;> rfl), bA⟩

/-! ### fixq_of: function 43 -/
def fixq_of.f (a0_0 : Int) (a0_1 : Int) : Option (Int × Bool) := if a0_0 > 0 then ((fixq_beyond.f).bind fun bt108 => (some (bt108.1, bt108.2))) else (some (a0_1, true))
set_option maxHeartbeats 8000000 in
set_option maxRecDepth 100000 in
theorem fixq_of.calls (a0_0 : Int) (a0_1 : Int) (r1 : Int) (r2 : Bool) (w : World) (h : fixq_of.f a0_0 a0_1 = some (r1, r2)) :
  Calls Tryd.prog 43 #[.agg #[.int .u64 a0_0, .int .u64 a0_1]] w fun e w' => e = .returned (.agg #[.int .u64 r1, .bool r2]) ∧ Below w.heap.size w w' := by
 have hu54 := Tryd.underlying54
 have hu63 := Tryd.underlying63
 have HB := Aside0.mk (Below.refl w.heap.size w)
 have H : (if a0_0 > 0 then ((fixq_beyond.f).bind fun bt108 => (some (bt108.1, bt108.2))) else (some (a0_1, true))) = some (r1, r2) := h
 clear h
 by_cases c2 : a0_0 > 0
 ·rw [if_pos c2] at H
  have c2b0 : decide (0 < a0_0) = true := decide_eq_true c2
  clear c2; replace H := Option.bind_eq_some_iff.mp H; obtain ⟨⟨t108, t109⟩, A30, H⟩ := H; replace H : (some (t108, t109)) = some (r1, r2) := H; have A3 := Aside0.mk A30; clear A30
  simp only [Option.some.injEq, Prod.mk.injEq] at H
  obtain ⟨rfl, rfl⟩ := H
  go_enter Tryd.func43, Tryd.ntmps43
  go_wp2_with (first | ((with_reducible refine gate_dst (N := 1) rfl ?_); refine bxA 1 #[.int .u64 a0_0, .int .u64 a0_1] 54 ?_; intro gb106 hg w4 hbox hb; have n0_ := Aside0.mk (below_step bA hb); have n1_ := Aside0.mk (hbox); have n2_ := Aside0.mk ((by rw [hg]; exact (below_size bA) : w.heap.size ≤ gb106)); have n3_ := Aside0.mk ((by rw [hg]; exact (below_size bA) : w.heap.size ≤ gb106)); clear HB; have HB := n0_; have BK106 := n1_; have GW106 := n2_; have GE106 := n3_; clear n0_ n1_ n2_ n3_ hb hbox hg) | ((with_reducible refine gate_dst (N := 2) rfl ?_); refine bxA 2 #[.int .u64 0, .bool false] 63 ?_; intro gb107 hg w5 hbox hb; have n0_ := Aside0.mk (blk_below (g := gb106) (o := .cells #[.int .u64 a0_0, .int .u64 a0_1] 54 (0, 0)) kA hb); have n1_ := Aside0.mk (below_step bA hb); have n2_ := Aside0.mk (hbox); have n3_ := Aside0.mk ((by rw [hg]; exact (below_size bA) : w.heap.size ≤ gb107)); have n4_ := Aside0.mk ((by rw [hg]; exact (below_size bA) : w.heap.size ≤ gb107)); have n5_ := Aside0.mk ((by rw [hg]; exact Nat.ne_of_lt (blk_lt (g := gb106) (o := .cells #[.int .u64 a0_0, .int .u64 a0_1] 54 (0, 0)) kA) : gb106 ≠ gb107)); have n6_ := Aside0.mk ((by rw [hg]; exact Nat.ne_of_gt (blk_lt (g := gb106) (o := .cells #[.int .u64 a0_0, .int .u64 a0_1] 54 (0, 0)) kA) : gb107 ≠ gb106)); clear BK106 HB; have BK106 := n0_; have HB := n1_; have BK107 := n2_; have GW107 := n3_; have GE107 := n4_; have NB106_107 := n5_; have NB107_106 := n6_; clear n0_ n1_ n2_ n3_ n4_ n5_ n6_ hb hbox hg; have hnb6 := NB106_107.out; have hnc6 := NB107_106.out; have hcz7_0 : w5.cell? ⟨gb106, 0, none⟩ = some (.int .u64 a0_0) := (blk_cell BK106.out 0).trans rfl; have hcz7_1 : w5.cell? ⟨gb106, 1, none⟩ = some (.int .u64 a0_1) := (blk_cell BK106.out 1).trans rfl; have hfz7_0 := blk_frozen BK106.out 0; have hfz7_1 := blk_frozen BK106.out 1) | ((with_reducible refine gate_callee (f := 52) rfl ?_); refine goesL_ (some 6) rfl rfl Tryd.func52 (by kernel_rfl) rfl #[] rfl aA ?_; (with_reducible refine (fixq_beyond.calls  t108 t109 _ A3.out).mono ?_); rintro e w8 ⟨rfl, hb⟩; refine ⟨_, rfl, ?_⟩; have n0_ := Aside0.mk (blk_below (g := gb106) (o := .cells #[.int .u64 a0_0, .int .u64 a0_1] 54 (0, 0)) kA hb); have n1_ := Aside0.mk (blk_below (g := gb107) (o := .cells #[.int .u64 0, .bool false] 63 (0, 0)) kA hb); have n2_ := Aside0.mk (below_step bA hb); clear BK106 BK107 HB; have BK106 := n0_; have BK107 := n1_; have HB := n2_; clear n0_ n1_ n2_; (try clear hb); have hcz9_0 : w8.cell? ⟨gb107, 0, none⟩ = some (.int .u64 0) := (blk_cell BK107.out 0).trans rfl; have hcz9_1 : w8.cell? ⟨gb107, 1, none⟩ = some (.bool false) := (blk_cell BK107.out 1).trans rfl; have hfz9_0 := blk_frozen BK107.out 0; have hfz9_1 := blk_frozen BK107.out 1))
  refine bodyPost_ret (results_cell_row rfl _ _ gb107 63 #[.int .u64 t108, .bool t109] (0, 0) _ rfl (by (with_reducible repeat (first | refine blk_drewN ?_ _ | refine blk_drew ?_ | refine blk_alloc ?_ _)); refine blk_put (cs := #[.int .u64 t108, .bool false]) ?_ 1 _ rfl; (with_reducible repeat (first | refine blk_drewN ?_ _ | refine blk_drew ?_ | refine blk_alloc ?_ _)); refine blk_put (cs := #[.int .u64 0, .bool false]) ?_ 0 _ rfl; (with_reducible repeat (first | refine blk_drewN ?_ _ | refine blk_drew ?_ | refine blk_alloc ?_ _)); exact BK107.out) Tryd.underlying63 rfl (by kernel_rfl)) rfl ?_
  exact ⟨by first | rfl | (simp [errW_none, errW_some] <;> rfl) | (simp [*, errW_none, errW_some] <;> rfl), bA⟩
 ·rw [if_neg c2] at H
  have c2b0 : decide (0 < a0_0) = false := decide_eq_false c2
  clear c2
  simp only [Option.some.injEq, Prod.mk.injEq] at H
  obtain ⟨rfl, rfl⟩ := H
  go_enter Tryd.func43, Tryd.ntmps43
  go_wp2_with (first | ((with_reducible refine gate_dst (N := 1) rfl ?_); refine bxA 1 #[.int .u64 a0_0, .int .u64 a0_1] 54 ?_; intro gb106 hg w10 hbox hb; have n0_ := Aside0.mk (below_step bA hb); have n1_ := Aside0.mk (hbox); have n2_ := Aside0.mk ((by rw [hg]; exact (below_size bA) : w.heap.size ≤ gb106)); have n3_ := Aside0.mk ((by rw [hg]; exact (below_size bA) : w.heap.size ≤ gb106)); clear HB; have HB := n0_; have BK106 := n1_; have GW106 := n2_; have GE106 := n3_; clear n0_ n1_ n2_ n3_ hb hbox hg) | ((with_reducible refine gate_dst (N := 2) rfl ?_); refine bxA 2 #[.int .u64 0, .bool false] 63 ?_; intro gb107 hg w11 hbox hb; have n0_ := Aside0.mk (blk_below (g := gb106) (o := .cells #[.int .u64 a0_0, .int .u64 a0_1] 54 (0, 0)) kA hb); have n1_ := Aside0.mk (below_step bA hb); have n2_ := Aside0.mk (hbox); have n3_ := Aside0.mk ((by rw [hg]; exact (below_size bA) : w.heap.size ≤ gb107)); have n4_ := Aside0.mk ((by rw [hg]; exact (below_size bA) : w.heap.size ≤ gb107)); have n5_ := Aside0.mk ((by rw [hg]; exact Nat.ne_of_lt (blk_lt (g := gb106) (o := .cells #[.int .u64 a0_0, .int .u64 a0_1] 54 (0, 0)) kA) : gb106 ≠ gb107)); have n6_ := Aside0.mk ((by rw [hg]; exact Nat.ne_of_gt (blk_lt (g := gb106) (o := .cells #[.int .u64 a0_0, .int .u64 a0_1] 54 (0, 0)) kA) : gb107 ≠ gb106)); clear BK106 HB; have BK106 := n0_; have HB := n1_; have BK107 := n2_; have GW107 := n3_; have GE107 := n4_; have NB106_107 := n5_; have NB107_106 := n6_; clear n0_ n1_ n2_ n3_ n4_ n5_ n6_ hb hbox hg; have hnb12 := NB106_107.out; have hnc12 := NB107_106.out; have hcz13_0 : w11.cell? ⟨gb106, 0, none⟩ = some (.int .u64 a0_0) := (blk_cell BK106.out 0).trans rfl; have hcz13_1 : w11.cell? ⟨gb106, 1, none⟩ = some (.int .u64 a0_1) := (blk_cell BK106.out 1).trans rfl; have hfz13_0 := blk_frozen BK106.out 0; have hfz13_1 := blk_frozen BK106.out 1; have hcz14_0 : w11.cell? ⟨gb107, 0, none⟩ = some (.int .u64 0) := (blk_cell BK107.out 0).trans rfl; have hcz14_1 : w11.cell? ⟨gb107, 1, none⟩ = some (.bool false) := (blk_cell BK107.out 1).trans rfl; have hfz14_0 := blk_frozen BK107.out 0; have hfz14_1 := blk_frozen BK107.out 1))
  refine bodyPost_ret (results_cell_row rfl _ _ gb107 63 #[.int .u64 a0_1, .bool true] (0, 0) _ rfl (by (with_reducible repeat (first | refine blk_drewN ?_ _ | refine blk_drew ?_ | refine blk_alloc ?_ _)); refine blk_put (cs := #[.int .u64 a0_1, .bool false]) ?_ 1 _ rfl; (with_reducible repeat (first | refine blk_drewN ?_ _ | refine blk_drew ?_ | refine blk_alloc ?_ _)); refine blk_put (cs := #[.int .u64 0, .bool false]) ?_ 0 _ rfl; (with_reducible repeat (first | refine blk_drewN ?_ _ | refine blk_drew ?_ | refine blk_alloc ?_ _)); exact BK107.out) Tryd.underlying63 rfl (by kernel_rfl)) rfl ?_
  exact ⟨by first | rfl | (simp [errW_none, errW_some] <;> rfl) | (simp [*, errW_none, errW_some] <;> rfl), bA⟩

/-! ### wide_Shl: function 44 -/
def wide_Shl.f (a0_0 : Int) (a0_1 : Int) (a1 : Int) : Option (Int × Int) := if a1 ≤ 0 then (some (a0_0, a0_1)) else (if a1 < 64 then (if 0 ≤ a1 then (if 0 ≤ (wrap64 (64 - a1)) then (some (Go.bits .or .u64 (shl .u64 a0_0 a1) (shr .u64 a0_1 (wrap64 (64 - a1))), shl .u64 a0_1 a1)) else (none)) else (none)) else (if a1 < 128 then (if 0 ≤ (wrap64 (a1 - 64)) then (some (shl .u64 a0_1 (wrap64 (a1 - 64)), 0)) else (none)) else (some (0, 0))))
def wide_Shl.T4 : Bool × List (List Nat × List Nat) := (true, [([], []), ([0], [0]), ([], []), ([1, 2], [1, 2]), ([], []), ([4], [4]), ([], []), ([6], [6]), ([5, 7], [5, 7]), ([3, 8], [3, 8]), ([], []), ([10], [10]), ([], []), ([11, 12], [11, 12]), ([9, 13], [9, 13]), ([14, 0, 1, 2, 3, 4, 5, 6, 7, 8, 9, 10, 11, 12, 13, 14], [14])])
def wide_Shl.B4 : List Nat := [0, 1, 0, 7, 0, 16, 0, 64, 240, 511, 0, 1024, 0, 7168, 16383, 32767]
theorem wide_Shl.tab4 : rtab .any (opsOf Tryd.f44 4) = wide_Shl.T4 := by kernel_rfl
theorem wide_Shl.bits4 : waitsOk wide_Shl.T4.2 wide_Shl.B4 = true := by kernel_rfl
set_option maxHeartbeats 8000000 in
set_option maxRecDepth 100000 in
theorem wide_Shl.calls (a0_0 : Int) (a0_1 : Int) (a1 : Int) (r1 : Int) (r2 : Int) (w : World) (h : wide_Shl.f a0_0 a0_1 a1 = some (r1, r2)) :
  Calls Tryd.prog 44 #[.agg #[.int .u64 a0_0, .int .u64 a0_1], .int .i64 a1] w fun e w' => e = .returned (.agg #[.int .u64 r1, .int .u64 r2]) ∧ Below w.heap.size w w' := by
 have hu54 := Tryd.underlying54
 have HB := Aside0.mk (Below.refl w.heap.size w)
 have H : (if a1 ≤ 0 then (some (a0_0, a0_1)) else (if a1 < 64 then (if 0 ≤ a1 then (if 0 ≤ (wrap64 (64 - a1)) then (some (Go.bits .or .u64 (shl .u64 a0_0 a1) (shr .u64 a0_1 (wrap64 (64 - a1))), shl .u64 a0_1 a1)) else (none)) else (none)) else (if a1 < 128 then (if 0 ≤ (wrap64 (a1 - 64)) then (some (shl .u64 a0_1 (wrap64 (a1 - 64)), 0)) else (none)) else (some (0, 0))))) = some (r1, r2) := h
 clear h
 by_cases c3 : a1 ≤ 0
 ·rw [if_pos c3] at H
  have c3b0 : decide (a1 ≤ 0) = true := decide_eq_true c3
  clear c3
  simp only [Option.some.injEq, Prod.mk.injEq] at H
  obtain ⟨rfl, rfl⟩ := H
  go_enter Tryd.func44, Tryd.ntmps44
  go_wp2_with (first | ((with_reducible refine gate_dst (N := 2) rfl ?_); refine bxA 2 #[.int .u64 a0_0, .int .u64 a0_1] 54 ?_; intro gb110 hg w4 hbox hb; have n0_ := Aside0.mk (below_step bA hb); have n1_ := Aside0.mk (hbox); have n2_ := Aside0.mk ((by rw [hg]; exact (below_size bA) : w.heap.size ≤ gb110)); have n3_ := Aside0.mk ((by rw [hg]; exact (below_size bA) : w.heap.size ≤ gb110)); clear HB; have HB := n0_; have BK110 := n1_; have GW110 := n2_; have GE110 := n3_; clear n0_ n1_ n2_ n3_ hb hbox hg) | ((with_reducible refine gate_dst (N := 4) rfl ?_); refine bxA 4 #[.int .u64 0, .int .u64 0] 54 ?_; intro gb111 hg w5 hbox hb; have n0_ := Aside0.mk (blk_below (g := gb110) (o := .cells #[.int .u64 a0_0, .int .u64 a0_1] 54 (0, 0)) kA hb); have n1_ := Aside0.mk (below_step bA hb); have n2_ := Aside0.mk (hbox); have n3_ := Aside0.mk ((by rw [hg]; exact (below_size bA) : w.heap.size ≤ gb111)); have n4_ := Aside0.mk ((by rw [hg]; exact (below_size bA) : w.heap.size ≤ gb111)); have n5_ := Aside0.mk ((by rw [hg]; exact Nat.ne_of_lt (blk_lt (g := gb110) (o := .cells #[.int .u64 a0_0, .int .u64 a0_1] 54 (0, 0)) kA) : gb110 ≠ gb111)); have n6_ := Aside0.mk ((by rw [hg]; exact Nat.ne_of_gt (blk_lt (g := gb110) (o := .cells #[.int .u64 a0_0, .int .u64 a0_1] 54 (0, 0)) kA) : gb111 ≠ gb110)); clear BK110 HB; have BK110 := n0_; have HB := n1_; have BK111 := n2_; have GW111 := n3_; have GE111 := n4_; have NB110_111 := n5_; have NB111_110 := n6_; clear n0_ n1_ n2_ n3_ n4_ n5_ n6_ hb hbox hg; have hnb6 := NB110_111.out; have hnc6 := NB111_110.out; have hcz7_0 : w5.cell? ⟨gb110, 0, none⟩ = some (.int .u64 a0_0) := (blk_cell BK110.out 0).trans rfl; have hcz7_1 : w5.cell? ⟨gb110, 1, none⟩ = some (.int .u64 a0_1) := (blk_cell BK110.out 1).trans rfl; have hfz7_0 := blk_frozen BK110.out 0; have hfz7_1 := blk_frozen BK110.out 1; have hcz8_0 : w5.cell? ⟨gb111, 0, none⟩ = some (.int .u64 0) := (blk_cell BK111.out 0).trans rfl; have hcz8_1 : w5.cell? ⟨gb111, 1, none⟩ = some (.int .u64 0) := (blk_cell BK111.out 1).trans rfl; have hfz8_0 := blk_frozen BK111.out 0; have hfz8_1 := blk_frozen BK111.out 1))
  refine bodyPost_ret (results_cell_row rfl _ _ gb111 54 #[.int .u64 a0_0, .int .u64 a0_1] (0, 0) _ rfl (by (with_reducible repeat (first | refine blk_drewN ?_ _ | refine blk_drew ?_ | refine blk_alloc ?_ _)); refine blk_put (cs := #[.int .u64 a0_0, .int .u64 0]) ?_ 1 _ rfl; (with_reducible repeat (first | refine blk_drewN ?_ _ | refine blk_drew ?_ | refine blk_alloc ?_ _)); refine blk_put (cs := #[.int .u64 0, .int .u64 0]) ?_ 0 _ rfl; (with_reducible repeat (first | refine blk_drewN ?_ _ | refine blk_drew ?_ | refine blk_alloc ?_ _)); exact BK111.out) Tryd.underlying54 rfl (by kernel_rfl)) rfl ?_
  exact ⟨by first | rfl | (simp [errW_none, errW_some] <;> rfl) | (simp [*, errW_none, errW_some] <;> rfl), bA⟩
 ·rw [if_neg c3] at H
  have c3b0 : decide (a1 ≤ 0) = false := decide_eq_false c3
  clear c3
  by_cases c9 : a1 < 64
  ·rw [if_pos c9] at H
   have c9b0 : decide (a1 < 64) = true := decide_eq_true c9
   clear c9
   by_cases c10 : 0 ≤ a1
   ·rw [if_pos c10] at H
    have c10b0 := eq_true c10
    have c10b1 : decide (0 ≤ a1) = true := decide_eq_true c10
    clear c10
    obtain ⟨ji11, hji11⟩ : ∃ j_ : Int, (shl .u64 a0_0 a1) = j_ := ⟨_, rfl⟩
    replace H : (if 0 ≤ (wrap64 (64 - a1)) then (some (Go.bits .or .u64 (ji11) (shr .u64 a0_1 (wrap64 (64 - a1))), shl .u64 a0_1 a1)) else (none)) = some (r1, r2) := by first | (rw [hji11] at H; exact H) | (simp only [hji11] at H ⊢; exact H)
    have hji11_ : (IntKind.u64.wrap (a0_0 * 2 ^ min a1.toNat 64)) = ji11 := hji11
    have hji11z : a1 ≤ 64 → (IntKind.u64.wrap (a0_0 * 2 ^ a1.toNat)) = ji11 := shl_small hji11
    obtain ⟨ji12, hji12⟩ : ∃ j_ : Int, (wrap64 (64 - a1)) = j_ := ⟨_, rfl⟩
    replace H : (if 0 ≤ (ji12) then (some (Go.bits .or .u64 (ji11) (shr .u64 a0_1 (ji12)), shl .u64 a0_1 a1)) else (none)) = some (r1, r2) := by first | (rw [hji12] at H; exact H) | (simp only [hji12] at H ⊢; exact H)
    have hji12w : (IntKind.i64.wrap (64 - a1)) = ji12 := (i64_w _).trans hji12
    by_cases c13 : 0 ≤ (ji12)
    ·rw [if_pos c13] at H
     have c13b0 := eq_true c13
     have c13b1 : decide (0 ≤ (ji12)) = true := decide_eq_true c13
     clear c13
     obtain ⟨ji14, hji14⟩ : ∃ j_ : Int, (shr .u64 a0_1 (ji12)) = j_ := ⟨_, rfl⟩
     replace H : (some (Go.bits .or .u64 (ji11) (ji14), shl .u64 a0_1 a1)) = some (r1, r2) := by first | (rw [hji14] at H; exact H) | (simp only [hji14] at H ⊢; exact H)
     have hji14_ : (a0_1 / 2 ^ min (ji12).toNat 64) = ji14 := hji14
     have hji14z : (ji12) ≤ 64 → (a0_1 / 2 ^ (ji12).toNat) = ji14 := shr_small hji14
     have c15b0 := eq_true (of_decide_eq_true (by first | (with_reducible assumption) | assumption) : 0 ≤ a1)
     obtain ⟨ji16, hji16⟩ : ∃ j_ : Int, (shl .u64 a0_1 a1) = j_ := ⟨_, rfl⟩
     replace H : (some (Go.bits .or .u64 (ji11) (ji14), ji16)) = some (r1, r2) := by first | (rw [hji16] at H; exact H) | (simp only [hji16] at H ⊢; exact H)
     have hji16_ : (IntKind.u64.wrap (a0_1 * 2 ^ min a1.toNat 64)) = ji16 := hji16
     have hji16z : a1 ≤ 64 → (IntKind.u64.wrap (a0_1 * 2 ^ a1.toNat)) = ji16 := shl_small hji16
     simp only [Option.some.injEq, Prod.mk.injEq] at H
     obtain ⟨rfl, rfl⟩ := H
     go_enter Tryd.func44, Tryd.ntmps44
     try go_wp2_with (first | ((with_reducible refine gate_dst (N := 2) rfl ?_); refine bxA 2 #[.int .u64 a0_0, .int .u64 a0_1] 54 ?_; intro gb110 hg w17 hbox hb; have n0_ := Aside0.mk (below_step bA hb); have n1_ := Aside0.mk (hbox); have n2_ := Aside0.mk ((by rw [hg]; exact (below_size bA) : w.heap.size ≤ gb110)); have n3_ := Aside0.mk ((by rw [hg]; exact (below_size bA) : w.heap.size ≤ gb110)); clear HB; have HB := n0_; have BK110 := n1_; have GW110 := n2_; have GE110 := n3_; clear n0_ n1_ n2_ n3_ hb hbox hg) | ((with_reducible refine gate_dst (N := 4) rfl ?_); refine bxA 4 #[.int .u64 0, .int .u64 0] 54 ?_; intro gb111 hg w18 hbox hb; have n0_ := Aside0.mk (blk_below (g := gb110) (o := .cells #[.int .u64 a0_0, .int .u64 a0_1] 54 (0, 0)) kA hb); have n1_ := Aside0.mk (below_step bA hb); have n2_ := Aside0.mk (hbox); have n3_ := Aside0.mk ((by rw [hg]; exact (below_size bA) : w.heap.size ≤ gb111)); have n4_ := Aside0.mk ((by rw [hg]; exact (below_size bA) : w.heap.size ≤ gb111)); have n5_ := Aside0.mk ((by rw [hg]; exact Nat.ne_of_lt (blk_lt (g := gb110) (o := .cells #[.int .u64 a0_0, .int .u64 a0_1] 54 (0, 0)) kA) : gb110 ≠ gb111)); have n6_ := Aside0.mk ((by rw [hg]; exact Nat.ne_of_gt (blk_lt (g := gb110) (o := .cells #[.int .u64 a0_0, .int .u64 a0_1] 54 (0, 0)) kA) : gb111 ≠ gb110)); clear BK110 HB; have BK110 := n0_; have HB := n1_; have BK111 := n2_; have GW111 := n3_; have GE111 := n4_; have NB110_111 := n5_; have NB111_110 := n6_; clear n0_ n1_ n2_ n3_ n4_ n5_ n6_ hb hbox hg))
     have n0_ := Aside0.mk (blk_drew BK110.out); have n1_ := Aside0.mk (blk_drew BK111.out); have n2_ := Aside0.mk (below_drew1 HB.out); clear BK110 BK111 HB; have BK110 := n0_; have BK111 := n1_; have HB := n2_; clear n0_ n1_ n2_
     refine start_ (n := 16) (S := fun w' => w'.cell? ⟨gb110, 0, none⟩ = some (.int .u64 a0_0) ∧ w'.cell? ⟨gb110, 1, none⟩ = some (.int .u64 a0_1)) (ds := []) #[false, false, false, false, false, false, false, false, false, false, false, false, false, false, false, false] (by kernel_rfl) rfl rfl ⟨(blk_cell BK110.out 0).trans rfl, (blk_cell BK110.out 1).trans rfl⟩ (fun hHeld => ?_); refine with_tabW wide_Shl.tab4 wide_Shl.bits4 (fun HT_ HW_ => ?_)
     generalize w18.drew = w19 at BK110 BK111 HB hHeld ⊢
     refine pure_ (i := 0) (N := some 12) (v := ?_) (a' := ?_) #[true, false, false, false, false, false, false, false, false, false, false, false, false, false, false, false] rfl rfl (any_of HT_.out (by kernel_rfl)) (fun _ _ _ h => h) (Or.inl ⟨by rfl, ?_⟩) ?_ ?_
     rotate_left
     ·intro w'
      go_simp; with_reducible rfl
     rotate_left
     ·simp only [Act.put, List.setIfInBounds_toArray, List.set_cons_zero, List.set_cons_succ, i64_w, i32_w]
      rfl
     refine pure_ (i := 2) (N := some 14) (v := ?_) (a' := ?_) #[true, false, true, false, false, false, false, false, false, false, false, false, false, false, false, false] rfl rfl (any_of HT_.out (by kernel_rfl)) (fun _ _ _ h => h) (Or.inl ⟨by rfl, ?_⟩) ?_ ?_
     rotate_left
     ·intro w'
      go_simp; with_reducible rfl
     rotate_left
     ·simp only [Act.put, List.setIfInBounds_toArray, List.set_cons_zero, List.set_cons_succ, i64_w, i32_w]
      rfl
     refine pure_ (i := 4) (N := some 16) (v := ?_) (a' := ?_) #[true, false, true, false, true, false, false, false, false, false, false, false, false, false, false, false] rfl rfl (any_of HT_.out (by kernel_rfl)) (fun _ _ _ h => h) (Or.inl ⟨by rfl, ?_⟩) ?_ ?_
     rotate_left
     ·intro w'
      go_simp; with_reducible rfl
     rotate_left
     ·simp only [Act.put, List.setIfInBounds_toArray, List.set_cons_zero, List.set_cons_succ, i64_w, i32_w]
      rfl
     refine pure_ (i := 6) (N := some 18) (v := ?_) (a' := ?_) #[true, false, true, false, true, false, true, false, false, false, false, false, false, false, false, false] rfl rfl (any_of HT_.out (by kernel_rfl)) (fun _ _ _ h => h) (Or.inl ⟨by rfl, ?_⟩) ?_ ?_
     rotate_left
     ·intro w'
      go_simp; with_reducible rfl
     rotate_left
     ·simp only [Act.put, List.setIfInBounds_toArray, List.set_cons_zero, List.set_cons_succ, i64_w, i32_w]
      rfl
     refine pure_ (i := 7) (N := some 19) (v := ?_) (a' := ?_) #[true, false, true, false, true, false, true, true, false, false, false, false, false, false, false, false] rfl rfl (any_of HT_.out (by kernel_rfl)) (fun _ _ _ h => h) (Or.inl ⟨by rfl, ?_⟩) ?_ ?_
     rotate_left
     ·intro w'
      go_simp; with_reducible rfl
     rotate_left
     ·simp only [Act.put, List.setIfInBounds_toArray, List.set_cons_zero, List.set_cons_succ, i64_w, i32_w]
      rfl
     refine pure_ (i := 10) (N := some 22) (v := ?_) (a' := ?_) #[true, false, true, false, true, false, true, true, false, false, true, false, false, false, false, false] rfl rfl (any_of HT_.out (by kernel_rfl)) (fun _ _ _ h => h) (Or.inl ⟨by rfl, ?_⟩) ?_ ?_
     rotate_left
     ·intro w'
      go_simp; with_reducible rfl
     rotate_left
     ·simp only [Act.put, List.setIfInBounds_toArray, List.set_cons_zero, List.set_cons_succ, i64_w, i32_w]
      rfl
     refine pure_ (i := 12) (N := some 24) (v := ?_) (a' := ?_) #[true, false, true, false, true, false, true, true, false, false, true, false, true, false, false, false] rfl rfl (any_of HT_.out (by kernel_rfl)) (fun _ _ _ h => h) (Or.inl ⟨by rfl, ?_⟩) ?_ ?_
     rotate_left
     ·intro w'
      go_simp; with_reducible rfl
     rotate_left
     ·simp only [Act.put, List.setIfInBounds_toArray, List.set_cons_zero, List.set_cons_succ, i64_w, i32_w]
      rfl
     refine take_ (i := 1) (N := some 13) (v := ?_) (a' := ?_) #[true, true, true, false, true, false, true, true, false, false, true, false, true, false, false, false] rfl rfl (take_ofW HT_.out HW_.out (by kernel_rfl)) (fun _ _ _ h => h) (Or.inl ⟨by rfl, ?_⟩) hHeld ?_ ?_
     rotate_left
     ·rintro w' ⟨s0, s1⟩
      go_simp; with_reducible rfl
     rotate_left
     ·simp only [Act.put, List.setIfInBounds_toArray, List.set_cons_zero, List.set_cons_succ, i64_w, i32_w]
      rfl
     refine pure_ (i := 3) (N := some 15) (v := ?_) (a' := ?_) #[true, true, true, true, true, false, true, true, false, false, true, false, true, false, false, false] rfl rfl (any_of HT_.out (by kernel_rfl)) (fun _ _ _ h => h) (Or.inl ⟨by rfl, ?_⟩) ?_ ?_
     rotate_left
     ·intro w'
      go_simp; with_reducible rfl
     rotate_left
     ·simp only [Act.put, List.setIfInBounds_toArray, List.set_cons_zero, List.set_cons_succ, i64_w, i32_w]
      rfl
     refine take_ (i := 5) (N := some 17) (v := ?_) (a' := ?_) #[true, true, true, true, true, true, true, true, false, false, true, false, true, false, false, false] rfl rfl (take_ofW HT_.out HW_.out (by kernel_rfl)) (fun _ _ _ h => h) (Or.inl ⟨by rfl, ?_⟩) hHeld ?_ ?_
     rotate_left
     ·rintro w' ⟨s0, s1⟩
      go_simp; with_reducible rfl
     rotate_left
     ·simp only [Act.put, List.setIfInBounds_toArray, List.set_cons_zero, List.set_cons_succ, i64_w, i32_w]
      rfl
     refine pure_ (i := 8) (N := some 20) (v := ?_) (a' := ?_) #[true, true, true, true, true, true, true, true, true, false, true, false, true, false, false, false] rfl rfl (any_of HT_.out (by kernel_rfl)) (fun _ _ _ h => h) (Or.inl ⟨by rfl, ?_⟩) ?_ ?_
     rotate_left
     ·intro w'
      go_simp; with_reducible rfl
     rotate_left
     ·simp only [Act.put, List.setIfInBounds_toArray, List.set_cons_zero, List.set_cons_succ, i64_w, i32_w]
      rfl
     refine pure_ (i := 9) (N := some 21) (v := ?_) (a' := ?_) #[true, true, true, true, true, true, true, true, true, true, true, false, true, false, false, false] rfl rfl (any_of HT_.out (by kernel_rfl)) (fun _ _ _ h => h) (Or.inl ⟨by rfl, ?_⟩) ?_ ?_
     rotate_left
     ·intro w'
      go_simp; with_reducible rfl
     rotate_left
     ·simp only [Act.put, List.setIfInBounds_toArray, List.set_cons_zero, List.set_cons_succ, i64_w, i32_w]
      rfl
     refine take_ (i := 11) (N := some 23) (v := ?_) (a' := ?_) #[true, true, true, true, true, true, true, true, true, true, true, true, true, false, false, false] rfl rfl (take_ofW HT_.out HW_.out (by kernel_rfl)) (fun _ _ _ h => h) (Or.inl ⟨by rfl, ?_⟩) hHeld ?_ ?_
     rotate_left
     ·rintro w' ⟨s0, s1⟩
      go_simp; with_reducible rfl
     rotate_left
     ·simp only [Act.put, List.setIfInBounds_toArray, List.set_cons_zero, List.set_cons_succ, i64_w, i32_w]
      rfl
     refine pure_ (i := 13) (N := some 25) (v := ?_) (a' := ?_) #[true, true, true, true, true, true, true, true, true, true, true, true, true, true, false, false] rfl rfl (any_of HT_.out (by kernel_rfl)) (fun _ _ _ h => h) (Or.inl ⟨by rfl, ?_⟩) ?_ ?_
     rotate_left
     ·intro w'
      go_simp; with_reducible rfl
     rotate_left
     ·simp only [Act.put, List.setIfInBounds_toArray, List.set_cons_zero, List.set_cons_succ, i64_w, i32_w]
      rfl
     refine pure_ (i := 14) (N := some 26) (v := ?_) (a' := ?_) #[true, true, true, true, true, true, true, true, true, true, true, true, true, true, true, false] rfl rfl (any_of HT_.out (by kernel_rfl)) (fun _ _ _ h => h) (Or.inl ⟨by rfl, ?_⟩) ?_ ?_
     rotate_left
     ·intro w'
      go_simp; with_reducible rfl
     rotate_left
     ·simp only [Act.put, List.setIfInBounds_toArray, List.set_cons_zero, List.set_cons_succ, i64_w, i32_w]
      rfl
     refine one_ (i := 15) (N := none) #[true, true, true, true, true, true, true, true, true, true, true, true, true, true, true, true] rfl rfl (one_of HT_.out (by kernel_rfl)) (by decide) (fun K hK => ?_)
     have hs20 : w19.cell? ⟨gb111, 0, none⟩ = some (.int .u64 0) := (blk_cell BK111.out 0).trans rfl
     have hfs20 := blk_frozen BK111.out 0
     have hns20_0 := NB110_111.out
     have hms20_0 := NB111_110.out
     have hs21 : w19.cell? ⟨gb111, 1, none⟩ = some (.int .u64 0) := (blk_cell BK111.out 1).trans rfl
     have hfs21 := blk_frozen BK111.out 1
     have hns21_0 := NB110_111.out
     have hms21_0 := NB111_110.out
     refine skip_ (w1 := ?_) (by rfl) rfl ?_ ?_
     rotate_left
     ·go_simp
      rfl
     refine hK.out _ _ ⟨((cell_far (p := ⟨gb111, _, none⟩) NB110_111.out _).trans (((cell_far (p := ⟨gb111, _, none⟩) NB110_111.out _).trans (hHeld.1)))), ((cell_far (p := ⟨gb111, _, none⟩) NB110_111.out _).trans (((cell_far (p := ⟨gb111, _, none⟩) NB110_111.out _).trans (hHeld.2))))⟩ (fun hHeld => ?_)
     clear hK K
     refine done_ (done_of HT_.out (by kernel_rfl)) ?_
     try go_wp2
     refine bodyPost_ret (results_cell_row rfl _ _ gb111 54 #[.int .u64 (Go.bits .or .u64 (ji11) (ji14)), .int .u64 ji16] (0, 0) _ rfl (by (with_reducible repeat (first | refine blk_drewN ?_ _ | refine blk_drew ?_ | refine blk_alloc ?_ _)); refine blk_put (cs := #[.int .u64 (Go.bits .or .u64 (ji11) (ji14)), .int .u64 0]) ?_ 1 _ rfl; (with_reducible repeat (first | refine blk_drewN ?_ _ | refine blk_drew ?_ | refine blk_alloc ?_ _)); refine blk_put (cs := #[.int .u64 0, .int .u64 0]) ?_ 0 _ rfl; (with_reducible repeat (first | refine blk_drewN ?_ _ | refine blk_drew ?_ | refine blk_alloc ?_ _)); exact BK111.out) Tryd.underlying54 rfl (by kernel_rfl)) rfl ?_
     exact ⟨by first | rfl | (simp [errW_none, errW_some] <;> rfl) | (simp only [← hji11, ← hji12, ← hji14, ← hji16]; first | rfl | (simp [errW_none, errW_some] <;> rfl)) | (simp [*, errW_none, errW_some] <;> rfl), bA⟩
    ·rw [if_neg c13] at H
     exact absurd H (by simp)
   ·rw [if_neg c10] at H
    exact absurd H (by simp)
  ·rw [if_neg c9] at H
   have c9b0 : decide (a1 < 64) = false := decide_eq_false c9
   clear c9
   by_cases c22 : a1 < 128
   ·rw [if_pos c22] at H
    have c22b0 : decide (a1 < 128) = true := decide_eq_true c22
    clear c22
    obtain ⟨ji23, hji23⟩ : ∃ j_ : Int, (wrap64 (a1 - 64)) = j_ := ⟨_, rfl⟩
    replace H : (if 0 ≤ (ji23) then (some (shl .u64 a0_1 (ji23), 0)) else (none)) = some (r1, r2) := by first | (rw [hji23] at H; exact H) | (simp only [hji23] at H ⊢; exact H)
    have hji23w : (IntKind.i64.wrap (a1 - 64)) = ji23 := (i64_w _).trans hji23
    by_cases c24 : 0 ≤ (ji23)
    ·rw [if_pos c24] at H
     have c24b0 := eq_true c24
     have c24b1 : decide (0 ≤ (ji23)) = true := decide_eq_true c24
     clear c24
     obtain ⟨ji25, hji25⟩ : ∃ j_ : Int, (shl .u64 a0_1 (ji23)) = j_ := ⟨_, rfl⟩
     replace H : (some (ji25, 0)) = some (r1, r2) := by first | (rw [hji25] at H; exact H) | (simp only [hji25] at H ⊢; exact H)
     have hji25_ : (IntKind.u64.wrap (a0_1 * 2 ^ min (ji23).toNat 64)) = ji25 := hji25
     have hji25z : (ji23) ≤ 64 → (IntKind.u64.wrap (a0_1 * 2 ^ (ji23).toNat)) = ji25 := shl_small hji25
     simp only [Option.some.injEq, Prod.mk.injEq] at H
     obtain ⟨rfl, rfl⟩ := H
     go_enter Tryd.func44, Tryd.ntmps44
     go_wp2_with (first | ((with_reducible refine gate_dst (N := 2) rfl ?_); refine bxA 2 #[.int .u64 a0_0, .int .u64 a0_1] 54 ?_; intro gb110 hg w26 hbox hb; have n0_ := Aside0.mk (below_step bA hb); have n1_ := Aside0.mk (hbox); have n2_ := Aside0.mk ((by rw [hg]; exact (below_size bA) : w.heap.size ≤ gb110)); have n3_ := Aside0.mk ((by rw [hg]; exact (below_size bA) : w.heap.size ≤ gb110)); clear HB; have HB := n0_; have BK110 := n1_; have GW110 := n2_; have GE110 := n3_; clear n0_ n1_ n2_ n3_ hb hbox hg) | ((with_reducible refine gate_dst (N := 4) rfl ?_); refine bxA 4 #[.int .u64 0, .int .u64 0] 54 ?_; intro gb111 hg w27 hbox hb; have n0_ := Aside0.mk (blk_below (g := gb110) (o := .cells #[.int .u64 a0_0, .int .u64 a0_1] 54 (0, 0)) kA hb); have n1_ := Aside0.mk (below_step bA hb); have n2_ := Aside0.mk (hbox); have n3_ := Aside0.mk ((by rw [hg]; exact (below_size bA) : w.heap.size ≤ gb111)); have n4_ := Aside0.mk ((by rw [hg]; exact (below_size bA) : w.heap.size ≤ gb111)); have n5_ := Aside0.mk ((by rw [hg]; exact Nat.ne_of_lt (blk_lt (g := gb110) (o := .cells #[.int .u64 a0_0, .int .u64 a0_1] 54 (0, 0)) kA) : gb110 ≠ gb111)); have n6_ := Aside0.mk ((by rw [hg]; exact Nat.ne_of_gt (blk_lt (g := gb110) (o := .cells #[.int .u64 a0_0, .int .u64 a0_1] 54 (0, 0)) kA) : gb111 ≠ gb110)); clear BK110 HB; have BK110 := n0_; have HB := n1_; have BK111 := n2_; have GW111 := n3_; have GE111 := n4_; have NB110_111 := n5_; have NB111_110 := n6_; clear n0_ n1_ n2_ n3_ n4_ n5_ n6_ hb hbox hg; have hnb28 := NB110_111.out; have hnc28 := NB111_110.out; have hcz29_0 : w27.cell? ⟨gb110, 0, none⟩ = some (.int .u64 a0_0) := (blk_cell BK110.out 0).trans rfl; have hcz29_1 : w27.cell? ⟨gb110, 1, none⟩ = some (.int .u64 a0_1) := (blk_cell BK110.out 1).trans rfl; have hfz29_0 := blk_frozen BK110.out 0; have hfz29_1 := blk_frozen BK110.out 1; have hcz30_0 : w27.cell? ⟨gb111, 0, none⟩ = some (.int .u64 0) := (blk_cell BK111.out 0).trans rfl; have hcz30_1 : w27.cell? ⟨gb111, 1, none⟩ = some (.int .u64 0) := (blk_cell BK111.out 1).trans rfl; have hfz30_0 := blk_frozen BK111.out 0; have hfz30_1 := blk_frozen BK111.out 1))
     refine bodyPost_ret (results_cell_row rfl _ _ gb111 54 #[.int .u64 ji25, .int .u64 0] (0, 0) _ rfl (by (with_reducible repeat (first | refine blk_drewN ?_ _ | refine blk_drew ?_ | refine blk_alloc ?_ _)); refine blk_put (cs := #[.int .u64 ji25, .int .u64 0]) ?_ 1 _ rfl; (with_reducible repeat (first | refine blk_drewN ?_ _ | refine blk_drew ?_ | refine blk_alloc ?_ _)); refine blk_put (cs := #[.int .u64 0, .int .u64 0]) ?_ 0 _ rfl; (with_reducible repeat (first | refine blk_drewN ?_ _ | refine blk_drew ?_ | refine blk_alloc ?_ _)); exact BK111.out) Tryd.underlying54 rfl (by kernel_rfl)) rfl ?_
     exact ⟨by first | rfl | (simp [errW_none, errW_some] <;> rfl) | (simp only [← hji23, ← hji25]; first | rfl | (simp [errW_none, errW_some] <;> rfl)) | (simp [*, errW_none, errW_some] <;> rfl), bA⟩
    ·rw [if_neg c24] at H
     exact absurd H (by simp)
   ·rw [if_neg c22] at H
    have c22b0 : decide (a1 < 128) = false := decide_eq_false c22
    clear c22
    simp only [Option.some.injEq, Prod.mk.injEq] at H
    obtain ⟨rfl, rfl⟩ := H
    go_enter Tryd.func44, Tryd.ntmps44
    go_wp2_with (first | ((with_reducible refine gate_dst (N := 2) rfl ?_); refine bxA 2 #[.int .u64 a0_0, .int .u64 a0_1] 54 ?_; intro gb110 hg w31 hbox hb; have n0_ := Aside0.mk (below_step bA hb); have n1_ := Aside0.mk (hbox); have n2_ := Aside0.mk ((by rw [hg]; exact (below_size bA) : w.heap.size ≤ gb110)); have n3_ := Aside0.mk ((by rw [hg]; exact (below_size bA) : w.heap.size ≤ gb110)); clear HB; have HB := n0_; have BK110 := n1_; have GW110 := n2_; have GE110 := n3_; clear n0_ n1_ n2_ n3_ hb hbox hg) | ((with_reducible refine gate_dst (N := 4) rfl ?_); refine bxA 4 #[.int .u64 0, .int .u64 0] 54 ?_; intro gb111 hg w32 hbox hb; have n0_ := Aside0.mk (blk_below (g := gb110) (o := .cells #[.int .u64 a0_0, .int .u64 a0_1] 54 (0, 0)) kA hb); have n1_ := Aside0.mk (below_step bA hb); have n2_ := Aside0.mk (hbox); have n3_ := Aside0.mk ((by rw [hg]; exact (below_size bA) : w.heap.size ≤ gb111)); have n4_ := Aside0.mk ((by rw [hg]; exact (below_size bA) : w.heap.size ≤ gb111)); have n5_ := Aside0.mk ((by rw [hg]; exact Nat.ne_of_lt (blk_lt (g := gb110) (o := .cells #[.int .u64 a0_0, .int .u64 a0_1] 54 (0, 0)) kA) : gb110 ≠ gb111)); have n6_ := Aside0.mk ((by rw [hg]; exact Nat.ne_of_gt (blk_lt (g := gb110) (o := .cells #[.int .u64 a0_0, .int .u64 a0_1] 54 (0, 0)) kA) : gb111 ≠ gb110)); clear BK110 HB; have BK110 := n0_; have HB := n1_; have BK111 := n2_; have GW111 := n3_; have GE111 := n4_; have NB110_111 := n5_; have NB111_110 := n6_; clear n0_ n1_ n2_ n3_ n4_ n5_ n6_ hb hbox hg; have hnb33 := NB111_110.out; have hnc33 := NB110_111.out; have hcz34_0 : w32.cell? ⟨gb111, 0, none⟩ = some (.int .u64 0) := (blk_cell BK111.out 0).trans rfl; have hcz34_1 : w32.cell? ⟨gb111, 1, none⟩ = some (.int .u64 0) := (blk_cell BK111.out 1).trans rfl; have hfz34_0 := blk_frozen BK111.out 0; have hfz34_1 := blk_frozen BK111.out 1))
    refine bodyPost_ret (results_cell_row rfl _ _ gb111 54 #[.int .u64 0, .int .u64 0] (0, 0) _ rfl (by (with_reducible repeat (first | refine blk_drewN ?_ _ | refine blk_drew ?_ | refine blk_alloc ?_ _)); refine blk_put (cs := #[.int .u64 0, .int .u64 0]) ?_ 1 _ rfl; (with_reducible repeat (first | refine blk_drewN ?_ _ | refine blk_drew ?_ | refine blk_alloc ?_ _)); refine blk_put (cs := #[.int .u64 0, .int .u64 0]) ?_ 0 _ rfl; (with_reducible repeat (first | refine blk_drewN ?_ _ | refine blk_drew ?_ | refine blk_alloc ?_ _)); exact BK111.out) Tryd.underlying54 rfl (by kernel_rfl)) rfl ?_
    exact ⟨by first | rfl | (simp [errW_none, errW_some] <;> rfl) | (simp [*, errW_none, errW_some] <;> rfl), bA⟩

/-! ### wide_Of: function 45 -/
def wide_Of.f (a0 : Int) : Option (Int × Int) := some (0, a0)
set_option maxHeartbeats 8000000 in
set_option maxRecDepth 100000 in
theorem wide_Of.calls (a0 : Int) (r1 : Int) (r2 : Int) (w : World) (h : wide_Of.f a0 = some (r1, r2)) :
  Calls Tryd.prog 45 #[.int .u64 a0] w fun e w' => e = .returned (.agg #[.int .u64 r1, .int .u64 r2]) ∧ Below w.heap.size w w' := by
 have hu54 := Tryd.underlying54
 have HB := Aside0.mk (Below.refl w.heap.size w)
 have H : (some (0, a0)) = some (r1, r2) := h
 clear h
 simp only [Option.some.injEq, Prod.mk.injEq] at H
 obtain ⟨rfl, rfl⟩ := H
 go_enter Tryd.func45, Tryd.ntmps45
 go_wp2_with (first | ((with_reducible refine gate_dst (N := 2) rfl ?_); refine bxA 2 #[.int .u64 0, .int .u64 0] 54 ?_; intro gb112 hg w2 hbox hb; have n0_ := Aside0.mk (below_step bA hb); have n1_ := Aside0.mk (hbox); have n2_ := Aside0.mk ((by rw [hg]; exact (below_size bA) : w.heap.size ≤ gb112)); have n3_ := Aside0.mk ((by rw [hg]; exact (below_size bA) : w.heap.size ≤ gb112)); clear HB; have HB := n0_; have BK112 := n1_; have GW112 := n2_; have GE112 := n3_; clear n0_ n1_ n2_ n3_ hb hbox hg; have hcz3_0 : w2.cell? ⟨gb112, 0, none⟩ = some (.int .u64 0) := (blk_cell BK112.out 0).trans rfl; have hcz3_1 : w2.cell? ⟨gb112, 1, none⟩ = some (.int .u64 0) := (blk_cell BK112.out 1).trans rfl; have hfz3_0 := blk_frozen BK112.out 0; have hfz3_1 := blk_frozen BK112.out 1))
 refine bodyPost_ret (results_cell_row rfl _ _ gb112 54 #[.int .u64 0, .int .u64 a0] (0, 0) _ rfl (by (with_reducible repeat (first | refine blk_drewN ?_ _ | refine blk_drew ?_ | refine blk_alloc ?_ _)); refine blk_put (cs := #[.int .u64 0, .int .u64 0]) ?_ 1 _ rfl; (with_reducible repeat (first | refine blk_drewN ?_ _ | refine blk_drew ?_ | refine blk_alloc ?_ _)); refine blk_put (cs := #[.int .u64 0, .int .u64 0]) ?_ 0 _ rfl; (with_reducible repeat (first | refine blk_drewN ?_ _ | refine blk_drew ?_ | refine blk_alloc ?_ _)); exact BK112.out) Tryd.underlying54 rfl (by kernel_rfl)) rfl ?_
 exact ⟨by first | rfl | (simp [errW_none, errW_some] <;> rfl) | (simp [*, errW_none, errW_some] <;> rfl), bA⟩

/-! ### fixq_Of: function 36 -/
def fixq_Of.f (a0 : Int) : Option (Int × Bool) := if a0 < 0 then (some (0, false)) else ((wide_Of.f (IntKind.u64.wrap (a0))).bind fun bt113 => ((wide_Shl.f bt113.1 bt113.2 32).bind fun bt115 => ((fixq_of.f bt115.1 bt115.2).bind fun bt117 => (some (bt117.1, bt117.2)))))
set_option maxHeartbeats 8000000 in
set_option maxRecDepth 100000 in
theorem fixq_Of.calls (a0 : Int) (r1 : Int) (r2 : Bool) (w : World) (h : fixq_Of.f a0 = some (r1, r2)) :
  Calls Tryd.prog 36 #[.int .i64 a0] w fun e w' => e = .returned (.tuple #[.int .u64 r1, .bool r2]) ∧ Below w.heap.size w w' := by
 have hu63 := Tryd.underlying63
 have HB := Aside0.mk (Below.refl w.heap.size w)
 have H : (if a0 < 0 then (some (0, false)) else ((wide_Of.f (IntKind.u64.wrap (a0))).bind fun bt113 => ((wide_Shl.f bt113.1 bt113.2 32).bind fun bt115 => ((fixq_of.f bt115.1 bt115.2).bind fun bt117 => (some (bt117.1, bt117.2)))))) = some (r1, r2) := h
 clear h
 by_cases c2 : a0 < 0
 ·rw [if_pos c2] at H
  have c2b0 : decide (a0 < 0) = true := decide_eq_true c2
  clear c2
  simp only [Option.some.injEq, Prod.mk.injEq] at H
  obtain ⟨rfl, rfl⟩ := H
  go_enter Tryd.func36, Tryd.ntmps36
  go_wp2
  repeat (go_quiet (fail); try go_wp2)
  go_ret2
  exact ⟨by first | rfl | (simp [errW_none, errW_some] <;> rfl) | (simp [*, errW_none, errW_some] <;> rfl), bA⟩
 ·rw [if_neg c2] at H
  have c2b0 : decide (a0 < 0) = false := decide_eq_false c2
  clear c2; replace H := Option.bind_eq_some_iff.mp H; obtain ⟨⟨t113, t114⟩, A30, H⟩ := H; replace H : ((wide_Shl.f t113 t114 32).bind fun bt115 => ((fixq_of.f bt115.1 bt115.2).bind fun bt117 => (some (bt117.1, bt117.2)))) = some (r1, r2) := H; have A3 := Aside0.mk A30; clear A30; replace H := Option.bind_eq_some_iff.mp H; obtain ⟨⟨t115, t116⟩, A40, H⟩ := H; replace H : ((fixq_of.f t115 t116).bind fun bt117 => (some (bt117.1, bt117.2))) = some (r1, r2) := H; have A4 := Aside0.mk A40; clear A40; replace H := Option.bind_eq_some_iff.mp H; obtain ⟨⟨t117, t118⟩, A50, H⟩ := H; replace H : (some (t117, t118)) = some (r1, r2) := H; have A5 := Aside0.mk A50; clear A50
  simp only [Option.some.injEq, Prod.mk.injEq] at H
  obtain ⟨rfl, rfl⟩ := H
  go_enter Tryd.func36, Tryd.ntmps36
  go_wp2_with (first | (go_at_call 45; (with_reducible refine (wide_Of.calls (IntKind.u64.wrap (a0)) t113 t114 _ A3.out).mono ?_); rintro e w6 ⟨rfl, hb⟩; have n0_ := Aside0.mk (below_step bA hb); clear HB; have HB := n0_; clear n0_; (try clear hb)) | (go_at_call 44; (with_reducible refine (wide_Shl.calls t113 t114 32 t115 t116 _ A4.out).mono ?_); rintro e w7 ⟨rfl, hb⟩; have n0_ := Aside0.mk (below_step bA hb); clear HB; have HB := n0_; clear n0_; (try clear hb)) | (go_at_call 43; (with_reducible refine (fixq_of.calls t115 t116 t117 t118 _ A5.out).mono ?_); rintro e w8 ⟨rfl, hb⟩; have n0_ := Aside0.mk (below_step bA hb); clear HB; have HB := n0_; clear n0_; (try clear hb)) | ((with_reducible refine gate_dst (N := 4) rfl ?_); refine bxA 4 #[.int .u64 0, .bool false] 63 ?_; intro gb119 hg w9 hbox hb; have n0_ := Aside0.mk (below_step bA hb); have n1_ := Aside0.mk (hbox); have n2_ := Aside0.mk ((by rw [hg]; exact (below_size bA) : w.heap.size ≤ gb119)); have n3_ := Aside0.mk ((by rw [hg]; exact (below_size bA) : w.heap.size ≤ gb119)); clear HB; have HB := n0_; have BK119 := n1_; have GW119 := n2_; have GE119 := n3_; clear n0_ n1_ n2_ n3_ hb hbox hg; have hcz10_0 : w9.cell? ⟨gb119, 0, none⟩ = some (.int .u64 0) := (blk_cell BK119.out 0).trans rfl; have hcz10_1 : w9.cell? ⟨gb119, 1, none⟩ = some (.bool false) := (blk_cell BK119.out 1).trans rfl; have hfz10_0 := blk_frozen BK119.out 0; have hfz10_1 := blk_frozen BK119.out 1))
  repeat (go_quiet (first | (go_at_call 45; (with_reducible refine (wide_Of.calls (IntKind.u64.wrap (a0)) t113 t114 _ A3.out).mono ?_); rintro e w6 ⟨rfl, hb⟩; have n0_ := Aside0.mk (below_step bA hb); clear HB; have HB := n0_; clear n0_; (try clear hb)) | (go_at_call 44; (with_reducible refine (wide_Shl.calls t113 t114 32 t115 t116 _ A4.out).mono ?_); rintro e w7 ⟨rfl, hb⟩; have n0_ := Aside0.mk (below_step bA hb); clear HB; have HB := n0_; clear n0_; (try clear hb)) | (go_at_call 43; (with_reducible refine (fixq_of.calls t115 t116 t117 t118 _ A5.out).mono ?_); rintro e w8 ⟨rfl, hb⟩; have n0_ := Aside0.mk (below_step bA hb); clear HB; have HB := n0_; clear n0_; (try clear hb)) | ((with_reducible refine gate_dst (N := 4) rfl ?_); refine bxA 4 #[.int .u64 0, .bool false] 63 ?_; intro gb119 hg w9 hbox hb; have n0_ := Aside0.mk (below_step bA hb); have n1_ := Aside0.mk (hbox); have n2_ := Aside0.mk ((by rw [hg]; exact (below_size bA) : w.heap.size ≤ gb119)); have n3_ := Aside0.mk ((by rw [hg]; exact (below_size bA) : w.heap.size ≤ gb119)); clear HB; have HB := n0_; have BK119 := n1_; have GW119 := n2_; have GE119 := n3_; clear n0_ n1_ n2_ n3_ hb hbox hg; have hcz10_0 : w9.cell? ⟨gb119, 0, none⟩ = some (.int .u64 0) := (blk_cell BK119.out 0).trans rfl; have hcz10_1 : w9.cell? ⟨gb119, 1, none⟩ = some (.bool false) := (blk_cell BK119.out 1).trans rfl; have hfz10_0 := blk_frozen BK119.out 0; have hfz10_1 := blk_frozen BK119.out 1)); try go_wp2_with (first | (go_at_call 45; (with_reducible refine (wide_Of.calls (IntKind.u64.wrap (a0)) t113 t114 _ A3.out).mono ?_); rintro e w6 ⟨rfl, hb⟩; have n0_ := Aside0.mk (below_step bA hb); clear HB; have HB := n0_; clear n0_; (try clear hb)) | (go_at_call 44; (with_reducible refine (wide_Shl.calls t113 t114 32 t115 t116 _ A4.out).mono ?_); rintro e w7 ⟨rfl, hb⟩; have n0_ := Aside0.mk (below_step bA hb); clear HB; have HB := n0_; clear n0_; (try clear hb)) | (go_at_call 43; (with_reducible refine (fixq_of.calls t115 t116 t117 t118 _ A5.out).mono ?_); rintro e w8 ⟨rfl, hb⟩; have n0_ := Aside0.mk (below_step bA hb); clear HB; have HB := n0_; clear n0_; (try clear hb)) | ((with_reducible refine gate_dst (N := 4) rfl ?_); refine bxA 4 #[.int .u64 0, .bool false] 63 ?_; intro gb119 hg w9 hbox hb; have n0_ := Aside0.mk (below_step bA hb); have n1_ := Aside0.mk (hbox); have n2_ := Aside0.mk ((by rw [hg]; exact (below_size bA) : w.heap.size ≤ gb119)); have n3_ := Aside0.mk ((by rw [hg]; exact (below_size bA) : w.heap.size ≤ gb119)); clear HB; have HB := n0_; have BK119 := n1_; have GW119 := n2_; have GE119 := n3_; clear n0_ n1_ n2_ n3_ hb hbox hg; have hcz10_0 : w9.cell? ⟨gb119, 0, none⟩ = some (.int .u64 0) := (blk_cell BK119.out 0).trans rfl; have hcz10_1 : w9.cell? ⟨gb119, 1, none⟩ = some (.bool false) := (blk_cell BK119.out 1).trans rfl; have hfz10_0 := blk_frozen BK119.out 0; have hfz10_1 := blk_frozen BK119.out 1)))
  go_ret2
  exact ⟨by first | rfl | (simp [errW_none, errW_some] <;> rfl) | (simp [*, errW_none, errW_some] <;> rfl), bA⟩

/-! ### bits_Add64: function 53 -/
def bits_Add64.f (a0 a1 a2 : Int) : Option (Int × Int) :=
 if 0 ≤ a0 ∧ 0 ≤ a1 ∧ 0 ≤ a2 ∧ a2 ≤ 1 then some ((a0 + a1 + a2) % 18446744073709551616, (a0 + a1 + a2) / 18446744073709551616) else none
theorem bits_Add64.calls (a0 a1 a2 r1 r2 : Int) (w : World) (h : bits_Add64.f a0 a1 a2 = some (r1, r2)) :
  CallsX Tryd.prog 53 #[.int .u64 a0, .int .u64 a1, .int .u64 a2] w fun e w' => e = .returned (.tuple #[.int .u64 r1, .int .u64 r2]) ∧ Below w.heap.size w w' := by
 unfold bits_Add64.f at h
 split at h
 ·rename_i hb
  simp only [Option.some.injEq, Prod.mk.injEq] at h
  obtain ⟨rfl, rfl⟩ := h
  refine ⟨_, w, ?_, rfl, Below.refl _ _⟩
  rw [run_callFunc_extern Tryd.func53 (by kernel_rfl) (by kernel_rfl) (by kernel_rfl) (e := add64Entry) (by kernel_rfl), run_add64 a0 a1 a2 hb.1 hb.2.1 hb.2.2.1 hb.2.2.2]
  rfl
 ·cases h

/-! ### wide_greatest: function 54 -/
def wide_greatest.f  : Option (Int × Int) := some (18446744073709551615, 18446744073709551615)
set_option maxHeartbeats 8000000 in
set_option maxRecDepth 100000 in
theorem wide_greatest.calls  (r1 : Int) (r2 : Int) (w : World) (h : wide_greatest.f  = some (r1, r2)) :
  Calls Tryd.prog 54 #[] w fun e w' => e = .returned (.agg #[.int .u64 r1, .int .u64 r2]) ∧ Below w.heap.size w w' := by
 have hu54 := Tryd.underlying54
 have HB := Aside0.mk (Below.refl w.heap.size w)
 have H : (some (18446744073709551615, 18446744073709551615)) = some (r1, r2) := h
 clear h
 simp only [Option.some.injEq, Prod.mk.injEq] at H
 obtain ⟨rfl, rfl⟩ := H
 go_enter Tryd.func54, Tryd.ntmps54
 go_wp2_with (first | ((with_reducible refine gate_dst (N := 0) rfl ?_); refine bxA 0 #[.int .u64 0, .int .u64 0] 54 ?_; intro gb120 hg w1 hbox hb; have n0_ := Aside0.mk (below_step bA hb); have n1_ := Aside0.mk (hbox); have n2_ := Aside0.mk ((by rw [hg]; exact (below_size bA) : w.heap.size ≤ gb120)); have n3_ := Aside0.mk ((by rw [hg]; exact (below_size bA) : w.heap.size ≤ gb120)); clear HB; have HB := n0_; have BK120 := n1_; have GW120 := n2_; have GE120 := n3_; clear n0_ n1_ n2_ n3_ hb hbox hg; have hcz2_0 : w1.cell? ⟨gb120, 0, none⟩ = some (.int .u64 0) := (blk_cell BK120.out 0).trans rfl; have hcz2_1 : w1.cell? ⟨gb120, 1, none⟩ = some (.int .u64 0) := (blk_cell BK120.out 1).trans rfl; have hfz2_0 := blk_frozen BK120.out 0; have hfz2_1 := blk_frozen BK120.out 1))
 refine bodyPost_ret (results_cell_row rfl _ _ gb120 54 #[.int .u64 18446744073709551615, .int .u64 18446744073709551615] (0, 0) _ rfl (by (with_reducible repeat (first | refine blk_drewN ?_ _ | refine blk_drew ?_ | refine blk_alloc ?_ _)); refine blk_put (cs := #[.int .u64 18446744073709551615, .int .u64 0]) ?_ 1 _ rfl; (with_reducible repeat (first | refine blk_drewN ?_ _ | refine blk_drew ?_ | refine blk_alloc ?_ _)); refine blk_put (cs := #[.int .u64 0, .int .u64 0]) ?_ 0 _ rfl; (with_reducible repeat (first | refine blk_drewN ?_ _ | refine blk_drew ?_ | refine blk_alloc ?_ _)); exact BK120.out) Tryd.underlying54 rfl (by kernel_rfl)) rfl ?_
 exact ⟨by first | rfl | (simp [errW_none, errW_some] <;> rfl) | (simp [*, errW_none, errW_some] <;> rfl), bA⟩

/-! ### wide_Add: function 46 -/
def wide_Add.f (a0_0 : Int) (a0_1 : Int) (a1_0 : Int) (a1_1 : Int) : Option (Int × Int × Bool) := (bits_Add64.f a0_1 a1_1 0).bind fun bt124 => ((bits_Add64.f a0_0 a1_0 bt124.2).bind fun bt126 => (if bt126.2 > 0 then ((wide_greatest.f).bind fun bt128 => (some (bt128.1, bt128.2, false))) else (some (bt126.1, bt124.1, true))))
set_option maxHeartbeats 8000000 in
set_option maxRecDepth 100000 in
theorem wide_Add.calls (a0_0 : Int) (a0_1 : Int) (a1_0 : Int) (a1_1 : Int) (r1 : Int) (r2 : Int) (r3 : Bool) (w : World) (h : wide_Add.f a0_0 a0_1 a1_0 a1_1 = some (r1, r2, r3)) :
  Calls Tryd.prog 46 #[.agg #[.int .u64 a0_0, .int .u64 a0_1], .agg #[.int .u64 a1_0, .int .u64 a1_1]] w fun e w' => e = .returned (.tuple #[.agg #[.int .u64 r1, .int .u64 r2], .bool r3]) ∧ Below w.heap.size w w' := by
 have hu54 := Tryd.underlying54
 have HB := Aside0.mk (Below.refl w.heap.size w)
 have H : ((bits_Add64.f a0_1 a1_1 0).bind fun bt124 => ((bits_Add64.f a0_0 a1_0 bt124.2).bind fun bt126 => (if bt126.2 > 0 then ((wide_greatest.f).bind fun bt128 => (some (bt128.1, bt128.2, false))) else (some (bt126.1, bt124.1, true))))) = some (r1, r2, r3) := h
 clear h; replace H := Option.bind_eq_some_iff.mp H; obtain ⟨⟨t124, t125⟩, A30, H⟩ := H; replace H : ((bits_Add64.f a0_0 a1_0 t125).bind fun bt126 => (if bt126.2 > 0 then ((wide_greatest.f).bind fun bt128 => (some (bt128.1, bt128.2, false))) else (some (bt126.1, t124, true)))) = some (r1, r2, r3) := H; have A3 := Aside0.mk A30; clear A30; replace H := Option.bind_eq_some_iff.mp H; obtain ⟨⟨t126, t127⟩, A40, H⟩ := H; replace H : (if t127 > 0 then ((wide_greatest.f).bind fun bt128 => (some (bt128.1, bt128.2, false))) else (some (t126, t124, true))) = some (r1, r2, r3) := H; have A4 := Aside0.mk A40; clear A40
 by_cases c5 : t127 > 0
 ·rw [if_pos c5] at H
  have c5b0 : decide (0 < t127) = true := decide_eq_true c5
  clear c5; replace H := Option.bind_eq_some_iff.mp H; obtain ⟨⟨t128, t129⟩, A60, H⟩ := H; replace H : (some (t128, t129, false)) = some (r1, r2, r3) := H; have A6 := Aside0.mk A60; clear A60
  simp only [Option.some.injEq, Prod.mk.injEq] at H
  obtain ⟨rfl, rfl, rfl⟩ := H
  go_enter Tryd.func46, Tryd.ntmps46
  go_wp2_with (first | ((with_reducible refine gate_dst (N := 2) rfl ?_); refine bxA 2 #[.int .u64 a0_0, .int .u64 a0_1] 54 ?_; intro gb121 hg w7 hbox hb; have n0_ := Aside0.mk (below_step bA hb); have n1_ := Aside0.mk (hbox); have n2_ := Aside0.mk ((by rw [hg]; exact (below_size bA) : w.heap.size ≤ gb121)); have n3_ := Aside0.mk ((by rw [hg]; exact (below_size bA) : w.heap.size ≤ gb121)); clear HB; have HB := n0_; have BK121 := n1_; have GW121 := n2_; have GE121 := n3_; clear n0_ n1_ n2_ n3_ hb hbox hg) | ((with_reducible refine gate_dst (N := 3) rfl ?_); refine bxA 3 #[.int .u64 a1_0, .int .u64 a1_1] 54 ?_; intro gb122 hg w8 hbox hb; have n0_ := Aside0.mk (blk_below (g := gb121) (o := .cells #[.int .u64 a0_0, .int .u64 a0_1] 54 (0, 0)) kA hb); have n1_ := Aside0.mk (below_step bA hb); have n2_ := Aside0.mk (hbox); have n3_ := Aside0.mk ((by rw [hg]; exact (below_size bA) : w.heap.size ≤ gb122)); have n4_ := Aside0.mk ((by rw [hg]; exact (below_size bA) : w.heap.size ≤ gb122)); have n5_ := Aside0.mk ((by rw [hg]; exact Nat.ne_of_lt (blk_lt (g := gb121) (o := .cells #[.int .u64 a0_0, .int .u64 a0_1] 54 (0, 0)) kA) : gb121 ≠ gb122)); have n6_ := Aside0.mk ((by rw [hg]; exact Nat.ne_of_gt (blk_lt (g := gb121) (o := .cells #[.int .u64 a0_0, .int .u64 a0_1] 54 (0, 0)) kA) : gb122 ≠ gb121)); clear BK121 HB; have BK121 := n0_; have HB := n1_; have BK122 := n2_; have GW122 := n3_; have GE122 := n4_; have NB121_122 := n5_; have NB122_121 := n6_; clear n0_ n1_ n2_ n3_ n4_ n5_ n6_ hb hbox hg) | ((with_reducible refine gate_dst (N := 4) rfl ?_); refine bxA 4 #[.int .u64 0, .int .u64 0] 54 ?_; intro gb123 hg w9 hbox hb; have n0_ := Aside0.mk (blk_below (g := gb121) (o := .cells #[.int .u64 a0_0, .int .u64 a0_1] 54 (0, 0)) kA hb); have n1_ := Aside0.mk (blk_below (g := gb122) (o := .cells #[.int .u64 a1_0, .int .u64 a1_1] 54 (0, 0)) kA hb); have n2_ := Aside0.mk (below_step bA hb); have n3_ := Aside0.mk (hbox); have n4_ := Aside0.mk ((by rw [hg]; exact (below_size bA) : w.heap.size ≤ gb123)); have n5_ := Aside0.mk ((by rw [hg]; exact (below_size bA) : w.heap.size ≤ gb123)); have n6_ := Aside0.mk ((by rw [hg]; exact Nat.ne_of_lt (blk_lt (g := gb121) (o := .cells #[.int .u64 a0_0, .int .u64 a0_1] 54 (0, 0)) kA) : gb121 ≠ gb123)); have n7_ := Aside0.mk ((by rw [hg]; exact Nat.ne_of_gt (blk_lt (g := gb121) (o := .cells #[.int .u64 a0_0, .int .u64 a0_1] 54 (0, 0)) kA) : gb123 ≠ gb121)); have n8_ := Aside0.mk ((by rw [hg]; exact Nat.ne_of_lt (blk_lt (g := gb122) (o := .cells #[.int .u64 a1_0, .int .u64 a1_1] 54 (0, 0)) kA) : gb122 ≠ gb123)); have n9_ := Aside0.mk ((by rw [hg]; exact Nat.ne_of_gt (blk_lt (g := gb122) (o := .cells #[.int .u64 a1_0, .int .u64 a1_1] 54 (0, 0)) kA) : gb123 ≠ gb122)); clear BK121 BK122 HB; have BK121 := n0_; have BK122 := n1_; have HB := n2_; have BK123 := n3_; have GW123 := n4_; have GE123 := n5_; have NB121_123 := n6_; have NB123_121 := n7_; have NB122_123 := n8_; have NB123_122 := n9_; clear n0_ n1_ n2_ n3_ n4_ n5_ n6_ n7_ n8_ n9_ hb hbox hg; have hnb10 := NB121_122.out; have hnc10 := NB122_121.out; have hnb11 := NB121_123.out; have hnc11 := NB123_121.out; have hcz12_0 : w9.cell? ⟨gb121, 0, none⟩ = some (.int .u64 a0_0) := (blk_cell BK121.out 0).trans rfl; have hcz12_1 : w9.cell? ⟨gb121, 1, none⟩ = some (.int .u64 a0_1) := (blk_cell BK121.out 1).trans rfl; have hfz12_0 := blk_frozen BK121.out 0; have hfz12_1 := blk_frozen BK121.out 1; have hnb13 := NB122_123.out; have hnc13 := NB123_122.out; have hcz14_0 : w9.cell? ⟨gb122, 0, none⟩ = some (.int .u64 a1_0) := (blk_cell BK122.out 0).trans rfl; have hcz14_1 : w9.cell? ⟨gb122, 1, none⟩ = some (.int .u64 a1_1) := (blk_cell BK122.out 1).trans rfl; have hfz14_0 := blk_frozen BK122.out 0; have hfz14_1 := blk_frozen BK122.out 1) | ((with_reducible refine gate_callee (f := 53) rfl ?_); refine goesX_ (some 14) rfl rfl #[.int .u64 a0_1, .int .u64 a1_1, .int .u64 0] rfl aA ?_; (with_reducible refine (bits_Add64.calls a0_1 a1_1 0 t124 t125 _ A3.out).mono ?_); rintro e w15 ⟨rfl, hb⟩; refine ⟨_, rfl, ?_⟩; have n0_ := Aside0.mk (blk_below (g := gb121) (o := .cells #[.int .u64 a0_0, .int .u64 a0_1] 54 (0, 0)) kA hb); have n1_ := Aside0.mk (blk_below (g := gb122) (o := .cells #[.int .u64 a1_0, .int .u64 a1_1] 54 (0, 0)) kA hb); have n2_ := Aside0.mk (blk_below (g := gb123) (o := .cells #[.int .u64 0, .int .u64 0] 54 (0, 0)) kA hb); have n3_ := Aside0.mk (below_step bA hb); clear BK121 BK122 BK123 HB; have BK121 := n0_; have BK122 := n1_; have BK123 := n2_; have HB := n3_; clear n0_ n1_ n2_ n3_; (try clear hb); have hcz16_0 : w15.cell? ⟨gb121, 0, none⟩ = some (.int .u64 a0_0) := (blk_cell BK121.out 0).trans rfl; have hcz16_1 : w15.cell? ⟨gb121, 1, none⟩ = some (.int .u64 a0_1) := (blk_cell BK121.out 1).trans rfl; have hfz16_0 := blk_frozen BK121.out 0; have hfz16_1 := blk_frozen BK121.out 1; have hcz17_0 : w15.cell? ⟨gb122, 0, none⟩ = some (.int .u64 a1_0) := (blk_cell BK122.out 0).trans rfl; have hcz17_1 : w15.cell? ⟨gb122, 1, none⟩ = some (.int .u64 a1_1) := (blk_cell BK122.out 1).trans rfl; have hfz17_0 := blk_frozen BK122.out 0; have hfz17_1 := blk_frozen BK122.out 1) | ((with_reducible refine gate_callee (f := 53) rfl ?_); refine goesX_ (some 23) rfl rfl #[.int .u64 a0_0, .int .u64 a1_0, .int .u64 t125] rfl aA ?_; (with_reducible refine (bits_Add64.calls a0_0 a1_0 t125 t126 t127 _ A4.out).mono ?_); rintro e w18 ⟨rfl, hb⟩; refine ⟨_, rfl, ?_⟩; have n0_ := Aside0.mk (blk_below (g := gb121) (o := .cells #[.int .u64 a0_0, .int .u64 a0_1] 54 (0, 0)) kA hb); have n1_ := Aside0.mk (blk_below (g := gb122) (o := .cells #[.int .u64 a1_0, .int .u64 a1_1] 54 (0, 0)) kA hb); have n2_ := Aside0.mk (blk_below (g := gb123) (o := .cells #[.int .u64 0, .int .u64 0] 54 (0, 0)) kA hb); have n3_ := Aside0.mk (below_step bA hb); clear BK121 BK122 BK123 HB; have BK121 := n0_; have BK122 := n1_; have BK123 := n2_; have HB := n3_; clear n0_ n1_ n2_ n3_; (try clear hb)) | ((with_reducible refine gate_callee (f := 54) rfl ?_); refine goesL_ (some 28) rfl rfl Tryd.func54 (by kernel_rfl) rfl #[] rfl aA ?_; (with_reducible refine (wide_greatest.calls  t128 t129 _ A6.out).mono ?_); rintro e w19 ⟨rfl, hb⟩; refine ⟨_, rfl, ?_⟩; have n0_ := Aside0.mk (blk_below (g := gb121) (o := .cells #[.int .u64 a0_0, .int .u64 a0_1] 54 (0, 0)) kA hb); have n1_ := Aside0.mk (blk_below (g := gb122) (o := .cells #[.int .u64 a1_0, .int .u64 a1_1] 54 (0, 0)) kA hb); have n2_ := Aside0.mk (blk_below (g := gb123) (o := .cells #[.int .u64 0, .int .u64 0] 54 (0, 0)) kA hb); have n3_ := Aside0.mk (below_step bA hb); clear BK121 BK122 BK123 HB; have BK121 := n0_; have BK122 := n1_; have BK123 := n2_; have HB := n3_; clear n0_ n1_ n2_ n3_; (try clear hb); have hcz20_0 : w19.cell? ⟨gb123, 0, none⟩ = some (.int .u64 0) := (blk_cell BK123.out 0).trans rfl; have hcz20_1 : w19.cell? ⟨gb123, 1, none⟩ = some (.int .u64 0) := (blk_cell BK123.out 1).trans rfl; have hfz20_0 := blk_frozen BK123.out 0; have hfz20_1 := blk_frozen BK123.out 1))
  refine bodyPost_ret (results_ct rfl _ _ gb123 54 #[.int .u64 t128, .int .u64 t129] (0, 0) _ rfl (by (with_reducible repeat (first | refine blk_drewN ?_ _ | refine blk_drew ?_ | refine blk_alloc ?_ _)); refine blk_put (cs := #[.int .u64 t128, .int .u64 0]) ?_ 1 _ rfl; (with_reducible repeat (first | refine blk_drewN ?_ _ | refine blk_drew ?_ | refine blk_alloc ?_ _)); refine blk_put (cs := #[.int .u64 0, .int .u64 0]) ?_ 0 _ rfl; (with_reducible repeat (first | refine blk_drewN ?_ _ | refine blk_drew ?_ | refine blk_alloc ?_ _)); exact BK123.out) Tryd.underlying54 rfl (by kernel_rfl)) rfl ?_
  exact ⟨by first | rfl | (simp [errW_none, errW_some] <;> rfl) | (simp [*, errW_none, errW_some] <;> rfl), bA⟩
 ·rw [if_neg c5] at H
  have c5b0 : decide (0 < t127) = false := decide_eq_false c5
  clear c5
  simp only [Option.some.injEq, Prod.mk.injEq] at H
  obtain ⟨rfl, rfl, rfl⟩ := H
  go_enter Tryd.func46, Tryd.ntmps46
  go_wp2_with (first | ((with_reducible refine gate_dst (N := 2) rfl ?_); refine bxA 2 #[.int .u64 a0_0, .int .u64 a0_1] 54 ?_; intro gb121 hg w21 hbox hb; have n0_ := Aside0.mk (below_step bA hb); have n1_ := Aside0.mk (hbox); have n2_ := Aside0.mk ((by rw [hg]; exact (below_size bA) : w.heap.size ≤ gb121)); have n3_ := Aside0.mk ((by rw [hg]; exact (below_size bA) : w.heap.size ≤ gb121)); clear HB; have HB := n0_; have BK121 := n1_; have GW121 := n2_; have GE121 := n3_; clear n0_ n1_ n2_ n3_ hb hbox hg) | ((with_reducible refine gate_dst (N := 3) rfl ?_); refine bxA 3 #[.int .u64 a1_0, .int .u64 a1_1] 54 ?_; intro gb122 hg w22 hbox hb; have n0_ := Aside0.mk (blk_below (g := gb121) (o := .cells #[.int .u64 a0_0, .int .u64 a0_1] 54 (0, 0)) kA hb); have n1_ := Aside0.mk (below_step bA hb); have n2_ := Aside0.mk (hbox); have n3_ := Aside0.mk ((by rw [hg]; exact (below_size bA) : w.heap.size ≤ gb122)); have n4_ := Aside0.mk ((by rw [hg]; exact (below_size bA) : w.heap.size ≤ gb122)); have n5_ := Aside0.mk ((by rw [hg]; exact Nat.ne_of_lt (blk_lt (g := gb121) (o := .cells #[.int .u64 a0_0, .int .u64 a0_1] 54 (0, 0)) kA) : gb121 ≠ gb122)); have n6_ := Aside0.mk ((by rw [hg]; exact Nat.ne_of_gt (blk_lt (g := gb121) (o := .cells #[.int .u64 a0_0, .int .u64 a0_1] 54 (0, 0)) kA) : gb122 ≠ gb121)); clear BK121 HB; have BK121 := n0_; have HB := n1_; have BK122 := n2_; have GW122 := n3_; have GE122 := n4_; have NB121_122 := n5_; have NB122_121 := n6_; clear n0_ n1_ n2_ n3_ n4_ n5_ n6_ hb hbox hg) | ((with_reducible refine gate_dst (N := 4) rfl ?_); refine bxA 4 #[.int .u64 0, .int .u64 0] 54 ?_; intro gb123 hg w23 hbox hb; have n0_ := Aside0.mk (blk_below (g := gb121) (o := .cells #[.int .u64 a0_0, .int .u64 a0_1] 54 (0, 0)) kA hb); have n1_ := Aside0.mk (blk_below (g := gb122) (o := .cells #[.int .u64 a1_0, .int .u64 a1_1] 54 (0, 0)) kA hb); have n2_ := Aside0.mk (below_step bA hb); have n3_ := Aside0.mk (hbox); have n4_ := Aside0.mk ((by rw [hg]; exact (below_size bA) : w.heap.size ≤ gb123)); have n5_ := Aside0.mk ((by rw [hg]; exact (below_size bA) : w.heap.size ≤ gb123)); have n6_ := Aside0.mk ((by rw [hg]; exact Nat.ne_of_lt (blk_lt (g := gb121) (o := .cells #[.int .u64 a0_0, .int .u64 a0_1] 54 (0, 0)) kA) : gb121 ≠ gb123)); have n7_ := Aside0.mk ((by rw [hg]; exact Nat.ne_of_gt (blk_lt (g := gb121) (o := .cells #[.int .u64 a0_0, .int .u64 a0_1] 54 (0, 0)) kA) : gb123 ≠ gb121)); have n8_ := Aside0.mk ((by rw [hg]; exact Nat.ne_of_lt (blk_lt (g := gb122) (o := .cells #[.int .u64 a1_0, .int .u64 a1_1] 54 (0, 0)) kA) : gb122 ≠ gb123)); have n9_ := Aside0.mk ((by rw [hg]; exact Nat.ne_of_gt (blk_lt (g := gb122) (o := .cells #[.int .u64 a1_0, .int .u64 a1_1] 54 (0, 0)) kA) : gb123 ≠ gb122)); clear BK121 BK122 HB; have BK121 := n0_; have BK122 := n1_; have HB := n2_; have BK123 := n3_; have GW123 := n4_; have GE123 := n5_; have NB121_123 := n6_; have NB123_121 := n7_; have NB122_123 := n8_; have NB123_122 := n9_; clear n0_ n1_ n2_ n3_ n4_ n5_ n6_ n7_ n8_ n9_ hb hbox hg; have hnb24 := NB121_122.out; have hnc24 := NB122_121.out; have hnb25 := NB121_123.out; have hnc25 := NB123_121.out; have hcz26_0 : w23.cell? ⟨gb121, 0, none⟩ = some (.int .u64 a0_0) := (blk_cell BK121.out 0).trans rfl; have hcz26_1 : w23.cell? ⟨gb121, 1, none⟩ = some (.int .u64 a0_1) := (blk_cell BK121.out 1).trans rfl; have hfz26_0 := blk_frozen BK121.out 0; have hfz26_1 := blk_frozen BK121.out 1; have hnb27 := NB122_123.out; have hnc27 := NB123_122.out; have hcz28_0 : w23.cell? ⟨gb122, 0, none⟩ = some (.int .u64 a1_0) := (blk_cell BK122.out 0).trans rfl; have hcz28_1 : w23.cell? ⟨gb122, 1, none⟩ = some (.int .u64 a1_1) := (blk_cell BK122.out 1).trans rfl; have hfz28_0 := blk_frozen BK122.out 0; have hfz28_1 := blk_frozen BK122.out 1) | ((with_reducible refine gate_callee (f := 53) rfl ?_); refine goesX_ (some 14) rfl rfl #[.int .u64 a0_1, .int .u64 a1_1, .int .u64 0] rfl aA ?_; (with_reducible refine (bits_Add64.calls a0_1 a1_1 0 t124 t125 _ A3.out).mono ?_); rintro e w29 ⟨rfl, hb⟩; refine ⟨_, rfl, ?_⟩; have n0_ := Aside0.mk (blk_below (g := gb121) (o := .cells #[.int .u64 a0_0, .int .u64 a0_1] 54 (0, 0)) kA hb); have n1_ := Aside0.mk (blk_below (g := gb122) (o := .cells #[.int .u64 a1_0, .int .u64 a1_1] 54 (0, 0)) kA hb); have n2_ := Aside0.mk (blk_below (g := gb123) (o := .cells #[.int .u64 0, .int .u64 0] 54 (0, 0)) kA hb); have n3_ := Aside0.mk (below_step bA hb); clear BK121 BK122 BK123 HB; have BK121 := n0_; have BK122 := n1_; have BK123 := n2_; have HB := n3_; clear n0_ n1_ n2_ n3_; (try clear hb); have hcz30_0 : w29.cell? ⟨gb121, 0, none⟩ = some (.int .u64 a0_0) := (blk_cell BK121.out 0).trans rfl; have hcz30_1 : w29.cell? ⟨gb121, 1, none⟩ = some (.int .u64 a0_1) := (blk_cell BK121.out 1).trans rfl; have hfz30_0 := blk_frozen BK121.out 0; have hfz30_1 := blk_frozen BK121.out 1; have hcz31_0 : w29.cell? ⟨gb122, 0, none⟩ = some (.int .u64 a1_0) := (blk_cell BK122.out 0).trans rfl; have hcz31_1 : w29.cell? ⟨gb122, 1, none⟩ = some (.int .u64 a1_1) := (blk_cell BK122.out 1).trans rfl; have hfz31_0 := blk_frozen BK122.out 0; have hfz31_1 := blk_frozen BK122.out 1) | ((with_reducible refine gate_callee (f := 53) rfl ?_); refine goesX_ (some 23) rfl rfl #[.int .u64 a0_0, .int .u64 a1_0, .int .u64 t125] rfl aA ?_; (with_reducible refine (bits_Add64.calls a0_0 a1_0 t125 t126 t127 _ A4.out).mono ?_); rintro e w32 ⟨rfl, hb⟩; refine ⟨_, rfl, ?_⟩; have n0_ := Aside0.mk (blk_below (g := gb121) (o := .cells #[.int .u64 a0_0, .int .u64 a0_1] 54 (0, 0)) kA hb); have n1_ := Aside0.mk (blk_below (g := gb122) (o := .cells #[.int .u64 a1_0, .int .u64 a1_1] 54 (0, 0)) kA hb); have n2_ := Aside0.mk (blk_below (g := gb123) (o := .cells #[.int .u64 0, .int .u64 0] 54 (0, 0)) kA hb); have n3_ := Aside0.mk (below_step bA hb); clear BK121 BK122 BK123 HB; have BK121 := n0_; have BK122 := n1_; have BK123 := n2_; have HB := n3_; clear n0_ n1_ n2_ n3_; (try clear hb); have hcz33_0 : w32.cell? ⟨gb123, 0, none⟩ = some (.int .u64 0) := (blk_cell BK123.out 0).trans rfl; have hcz33_1 : w32.cell? ⟨gb123, 1, none⟩ = some (.int .u64 0) := (blk_cell BK123.out 1).trans rfl; have hfz33_0 := blk_frozen BK123.out 0; have hfz33_1 := blk_frozen BK123.out 1))
  refine bodyPost_ret (results_ct rfl _ _ gb123 54 #[.int .u64 t126, .int .u64 t124] (0, 0) _ rfl (by (with_reducible repeat (first | refine blk_drewN ?_ _ | refine blk_drew ?_ | refine blk_alloc ?_ _)); refine blk_put (cs := #[.int .u64 t126, .int .u64 0]) ?_ 1 _ rfl; (with_reducible repeat (first | refine blk_drewN ?_ _ | refine blk_drew ?_ | refine blk_alloc ?_ _)); refine blk_put (cs := #[.int .u64 0, .int .u64 0]) ?_ 0 _ rfl; (with_reducible repeat (first | refine blk_drewN ?_ _ | refine blk_drew ?_ | refine blk_alloc ?_ _)); exact BK123.out) Tryd.underlying54 rfl (by kernel_rfl)) rfl ?_
  exact ⟨by first | rfl | (simp [errW_none, errW_some] <;> rfl) | (simp [*, errW_none, errW_some] <;> rfl), bA⟩

/-! ### fixq_Add: function 37 -/
def fixq_Add.f (a0 : Int) (a1 : Int) : Option (Int × Bool) := (wide_Of.f a0).bind fun bt130 => ((wide_Of.f a1).bind fun bt132 => ((wide_Add.f bt130.1 bt130.2 bt132.1 bt132.2).bind fun bt134 => ((fixq_of.f bt134.1 bt134.2.1).bind fun bt138 => (some (bt138.1, bt138.2)))))
set_option maxHeartbeats 8000000 in
set_option maxRecDepth 100000 in
theorem fixq_Add.calls (a0 : Int) (a1 : Int) (r1 : Int) (r2 : Bool) (w : World) (h : fixq_Add.f a0 a1 = some (r1, r2)) :
  Calls Tryd.prog 37 #[.int .u64 a0, .int .u64 a1] w fun e w' => e = .returned (.tuple #[.int .u64 r1, .bool r2]) ∧ Below w.heap.size w w' := by
 have hu54 := Tryd.underlying54
 have hu63 := Tryd.underlying63
 have HB := Aside0.mk (Below.refl w.heap.size w)
 have H : ((wide_Of.f a0).bind fun bt130 => ((wide_Of.f a1).bind fun bt132 => ((wide_Add.f bt130.1 bt130.2 bt132.1 bt132.2).bind fun bt134 => ((fixq_of.f bt134.1 bt134.2.1).bind fun bt138 => (some (bt138.1, bt138.2)))))) = some (r1, r2) := h
 clear h; replace H := Option.bind_eq_some_iff.mp H; obtain ⟨⟨t130, t131⟩, A30, H⟩ := H; replace H : ((wide_Of.f a1).bind fun bt132 => ((wide_Add.f t130 t131 bt132.1 bt132.2).bind fun bt134 => ((fixq_of.f bt134.1 bt134.2.1).bind fun bt138 => (some (bt138.1, bt138.2))))) = some (r1, r2) := H; have A3 := Aside0.mk A30; clear A30; replace H := Option.bind_eq_some_iff.mp H; obtain ⟨⟨t132, t133⟩, A40, H⟩ := H; replace H : ((wide_Add.f t130 t131 t132 t133).bind fun bt134 => ((fixq_of.f bt134.1 bt134.2.1).bind fun bt138 => (some (bt138.1, bt138.2)))) = some (r1, r2) := H; have A4 := Aside0.mk A40; clear A40; replace H := Option.bind_eq_some_iff.mp H; obtain ⟨⟨t134, t135, t136⟩, A50, H⟩ := H; replace H : ((fixq_of.f t134 t135).bind fun bt138 => (some (bt138.1, bt138.2))) = some (r1, r2) := H; have A5 := Aside0.mk A50; clear A50; replace H := Option.bind_eq_some_iff.mp H; obtain ⟨⟨t138, t139⟩, A60, H⟩ := H; replace H : (some (t138, t139)) = some (r1, r2) := H; have A6 := Aside0.mk A60; clear A60
 simp only [Option.some.injEq, Prod.mk.injEq] at H
 obtain ⟨rfl, rfl⟩ := H
 go_enter Tryd.func37, Tryd.ntmps37
 go_wp2_with (first | (go_at_call 45; (with_reducible refine (wide_Of.calls a0 t130 t131 _ A3.out).mono ?_); rintro e w7 ⟨rfl, hb⟩; have n0_ := Aside0.mk (below_step bA hb); clear HB; have HB := n0_; clear n0_; (try clear hb)) | (go_at_call 45; (with_reducible refine (wide_Of.calls a1 t132 t133 _ A4.out).mono ?_); rintro e w8 ⟨rfl, hb⟩; have n0_ := Aside0.mk (below_step bA hb); clear HB; have HB := n0_; clear n0_; (try clear hb)) | (go_at_call 46; (with_reducible refine (wide_Add.calls t130 t131 t132 t133 t134 t135 t136 _ A5.out).mono ?_); rintro e w9 ⟨rfl, hb⟩; have n0_ := Aside0.mk (below_step bA hb); clear HB; have HB := n0_; clear n0_; (try clear hb)) | ((with_reducible refine gate_dst (N := 6) rfl ?_); refine bxA 6 #[.int .u64 0, .int .u64 0] 54 ?_; intro gb137 hg w10 hbox hb; have n0_ := Aside0.mk (below_step bA hb); have n1_ := Aside0.mk (hbox); have n2_ := Aside0.mk ((by rw [hg]; exact (below_size bA) : w.heap.size ≤ gb137)); have n3_ := Aside0.mk ((by rw [hg]; exact (below_size bA) : w.heap.size ≤ gb137)); clear HB; have HB := n0_; have BK137 := n1_; have GW137 := n2_; have GE137 := n3_; clear n0_ n1_ n2_ n3_ hb hbox hg; have hcz11_0 : w10.cell? ⟨gb137, 0, none⟩ = some (.int .u64 0) := (blk_cell BK137.out 0).trans rfl; have hcz11_1 : w10.cell? ⟨gb137, 1, none⟩ = some (.int .u64 0) := (blk_cell BK137.out 1).trans rfl; have hfz11_0 := blk_frozen BK137.out 0; have hfz11_1 := blk_frozen BK137.out 1) | (go_at_call 43; (with_reducible refine (fixq_of.calls t134 t135 t138 t139 _ A6.out).mono ?_); rintro e w12 ⟨rfl, hb⟩; have n0_ := Aside0.mk (blk_below (g := gb137) (o := .cells #[.int .u64 t134, .int .u64 t135] 54 (0, 0)) (by (with_reducible repeat (first | refine blk_drewN ?_ _ | refine blk_drew ?_ | refine blk_alloc ?_ _)); refine blk_put (cs := #[.int .u64 t134, .int .u64 0]) ?_ 1 _ rfl; (with_reducible repeat (first | refine blk_drewN ?_ _ | refine blk_drew ?_ | refine blk_alloc ?_ _)); refine blk_put (cs := #[.int .u64 0, .int .u64 0]) ?_ 0 _ rfl; (with_reducible repeat (first | refine blk_drewN ?_ _ | refine blk_drew ?_ | refine blk_alloc ?_ _)); exact BK137.out) hb); have n1_ := Aside0.mk (below_step bA hb); clear BK137 HB; have BK137 := n0_; have HB := n1_; clear n0_ n1_; (try clear hb)) | ((with_reducible refine gate_dst (N := 8) rfl ?_); refine bxA 8 #[.int .u64 0, .bool false] 63 ?_; intro gb140 hg w13 hbox hb; have n0_ := Aside0.mk (blk_below (g := gb137) (o := .cells #[.int .u64 t134, .int .u64 t135] 54 (0, 0)) kA hb); have n1_ := Aside0.mk (below_step bA hb); have n2_ := Aside0.mk (hbox); have n3_ := Aside0.mk ((by rw [hg]; exact (below_size bA) : w.heap.size ≤ gb140)); have n4_ := Aside0.mk ((by rw [hg]; exact (below_size bA) : w.heap.size ≤ gb140)); have n5_ := Aside0.mk ((by rw [hg]; exact Nat.ne_of_lt (blk_lt (g := gb137) (o := .cells #[.int .u64 t134, .int .u64 t135] 54 (0, 0)) kA) : gb137 ≠ gb140)); have n6_ := Aside0.mk ((by rw [hg]; exact Nat.ne_of_gt (blk_lt (g := gb137) (o := .cells #[.int .u64 t134, .int .u64 t135] 54 (0, 0)) kA) : gb140 ≠ gb137)); clear BK137 HB; have BK137 := n0_; have HB := n1_; have BK140 := n2_; have GW140 := n3_; have GE140 := n4_; have NB137_140 := n5_; have NB140_137 := n6_; clear n0_ n1_ n2_ n3_ n4_ n5_ n6_ hb hbox hg; have hnb14 := NB140_137.out; have hnc14 := NB137_140.out; have hcz15_0 : w13.cell? ⟨gb140, 0, none⟩ = some (.int .u64 0) := (blk_cell BK140.out 0).trans rfl; have hcz15_1 : w13.cell? ⟨gb140, 1, none⟩ = some (.bool false) := (blk_cell BK140.out 1).trans rfl; have hfz15_0 := blk_frozen BK140.out 0; have hfz15_1 := blk_frozen BK140.out 1))
 repeat (go_quiet (first | (go_at_call 45; (with_reducible refine (wide_Of.calls a0 t130 t131 _ A3.out).mono ?_); rintro e w7 ⟨rfl, hb⟩; have n0_ := Aside0.mk (below_step bA hb); clear HB; have HB := n0_; clear n0_; (try clear hb)) | (go_at_call 45; (with_reducible refine (wide_Of.calls a1 t132 t133 _ A4.out).mono ?_); rintro e w8 ⟨rfl, hb⟩; have n0_ := Aside0.mk (below_step bA hb); clear HB; have HB := n0_; clear n0_; (try clear hb)) | (go_at_call 46; (with_reducible refine (wide_Add.calls t130 t131 t132 t133 t134 t135 t136 _ A5.out).mono ?_); rintro e w9 ⟨rfl, hb⟩; have n0_ := Aside0.mk (below_step bA hb); clear HB; have HB := n0_; clear n0_; (try clear hb)) | ((with_reducible refine gate_dst (N := 6) rfl ?_); refine bxA 6 #[.int .u64 0, .int .u64 0] 54 ?_; intro gb137 hg w10 hbox hb; have n0_ := Aside0.mk (below_step bA hb); have n1_ := Aside0.mk (hbox); have n2_ := Aside0.mk ((by rw [hg]; exact (below_size bA) : w.heap.size ≤ gb137)); have n3_ := Aside0.mk ((by rw [hg]; exact (below_size bA) : w.heap.size ≤ gb137)); clear HB; have HB := n0_; have BK137 := n1_; have GW137 := n2_; have GE137 := n3_; clear n0_ n1_ n2_ n3_ hb hbox hg; have hcz11_0 : w10.cell? ⟨gb137, 0, none⟩ = some (.int .u64 0) := (blk_cell BK137.out 0).trans rfl; have hcz11_1 : w10.cell? ⟨gb137, 1, none⟩ = some (.int .u64 0) := (blk_cell BK137.out 1).trans rfl; have hfz11_0 := blk_frozen BK137.out 0; have hfz11_1 := blk_frozen BK137.out 1) | (go_at_call 43; (with_reducible refine (fixq_of.calls t134 t135 t138 t139 _ A6.out).mono ?_); rintro e w12 ⟨rfl, hb⟩; have n0_ := Aside0.mk (blk_below (g := gb137) (o := .cells #[.int .u64 t134, .int .u64 t135] 54 (0, 0)) (by (with_reducible repeat (first | refine blk_drewN ?_ _ | refine blk_drew ?_ | refine blk_alloc ?_ _)); refine blk_put (cs := #[.int .u64 t134, .int .u64 0]) ?_ 1 _ rfl; (with_reducible repeat (first | refine blk_drewN ?_ _ | refine blk_drew ?_ | refine blk_alloc ?_ _)); refine blk_put (cs := #[.int .u64 0, .int .u64 0]) ?_ 0 _ rfl; (with_reducible repeat (first | refine blk_drewN ?_ _ | refine blk_drew ?_ | refine blk_alloc ?_ _)); exact BK137.out) hb); have n1_ := Aside0.mk (below_step bA hb); clear BK137 HB; have BK137 := n0_; have HB := n1_; clear n0_ n1_; (try clear hb)) | ((with_reducible refine gate_dst (N := 8) rfl ?_); refine bxA 8 #[.int .u64 0, .bool false] 63 ?_; intro gb140 hg w13 hbox hb; have n0_ := Aside0.mk (blk_below (g := gb137) (o := .cells #[.int .u64 t134, .int .u64 t135] 54 (0, 0)) kA hb); have n1_ := Aside0.mk (below_step bA hb); have n2_ := Aside0.mk (hbox); have n3_ := Aside0.mk ((by rw [hg]; exact (below_size bA) : w.heap.size ≤ gb140)); have n4_ := Aside0.mk ((by rw [hg]; exact (below_size bA) : w.heap.size ≤ gb140)); have n5_ := Aside0.mk ((by rw [hg]; exact Nat.ne_of_lt (blk_lt (g := gb137) (o := .cells #[.int .u64 t134, .int .u64 t135] 54 (0, 0)) kA) : gb137 ≠ gb140)); have n6_ := Aside0.mk ((by rw [hg]; exact Nat.ne_of_gt (blk_lt (g := gb137) (o := .cells #[.int .u64 t134, .int .u64 t135] 54 (0, 0)) kA) : gb140 ≠ gb137)); clear BK137 HB; have BK137 := n0_; have HB := n1_; have BK140 := n2_; have GW140 := n3_; have GE140 := n4_; have NB137_140 := n5_; have NB140_137 := n6_; clear n0_ n1_ n2_ n3_ n4_ n5_ n6_ hb hbox hg; have hnb14 := NB140_137.out; have hnc14 := NB137_140.out; have hcz15_0 : w13.cell? ⟨gb140, 0, none⟩ = some (.int .u64 0) := (blk_cell BK140.out 0).trans rfl; have hcz15_1 : w13.cell? ⟨gb140, 1, none⟩ = some (.bool false) := (blk_cell BK140.out 1).trans rfl; have hfz15_0 := blk_frozen BK140.out 0; have hfz15_1 := blk_frozen BK140.out 1)); try go_wp2_with (first | (go_at_call 45; (with_reducible refine (wide_Of.calls a0 t130 t131 _ A3.out).mono ?_); rintro e w7 ⟨rfl, hb⟩; have n0_ := Aside0.mk (below_step bA hb); clear HB; have HB := n0_; clear n0_; (try clear hb)) | (go_at_call 45; (with_reducible refine (wide_Of.calls a1 t132 t133 _ A4.out).mono ?_); rintro e w8 ⟨rfl, hb⟩; have n0_ := Aside0.mk (below_step bA hb); clear HB; have HB := n0_; clear n0_; (try clear hb)) | (go_at_call 46; (with_reducible refine (wide_Add.calls t130 t131 t132 t133 t134 t135 t136 _ A5.out).mono ?_); rintro e w9 ⟨rfl, hb⟩; have n0_ := Aside0.mk (below_step bA hb); clear HB; have HB := n0_; clear n0_; (try clear hb)) | ((with_reducible refine gate_dst (N := 6) rfl ?_); refine bxA 6 #[.int .u64 0, .int .u64 0] 54 ?_; intro gb137 hg w10 hbox hb; have n0_ := Aside0.mk (below_step bA hb); have n1_ := Aside0.mk (hbox); have n2_ := Aside0.mk ((by rw [hg]; exact (below_size bA) : w.heap.size ≤ gb137)); have n3_ := Aside0.mk ((by rw [hg]; exact (below_size bA) : w.heap.size ≤ gb137)); clear HB; have HB := n0_; have BK137 := n1_; have GW137 := n2_; have GE137 := n3_; clear n0_ n1_ n2_ n3_ hb hbox hg; have hcz11_0 : w10.cell? ⟨gb137, 0, none⟩ = some (.int .u64 0) := (blk_cell BK137.out 0).trans rfl; have hcz11_1 : w10.cell? ⟨gb137, 1, none⟩ = some (.int .u64 0) := (blk_cell BK137.out 1).trans rfl; have hfz11_0 := blk_frozen BK137.out 0; have hfz11_1 := blk_frozen BK137.out 1) | (go_at_call 43; (with_reducible refine (fixq_of.calls t134 t135 t138 t139 _ A6.out).mono ?_); rintro e w12 ⟨rfl, hb⟩; have n0_ := Aside0.mk (blk_below (g := gb137) (o := .cells #[.int .u64 t134, .int .u64 t135] 54 (0, 0)) (by (with_reducible repeat (first | refine blk_drewN ?_ _ | refine blk_drew ?_ | refine blk_alloc ?_ _)); refine blk_put (cs := #[.int .u64 t134, .int .u64 0]) ?_ 1 _ rfl; (with_reducible repeat (first | refine blk_drewN ?_ _ | refine blk_drew ?_ | refine blk_alloc ?_ _)); refine blk_put (cs := #[.int .u64 0, .int .u64 0]) ?_ 0 _ rfl; (with_reducible repeat (first | refine blk_drewN ?_ _ | refine blk_drew ?_ | refine blk_alloc ?_ _)); exact BK137.out) hb); have n1_ := Aside0.mk (below_step bA hb); clear BK137 HB; have BK137 := n0_; have HB := n1_; clear n0_ n1_; (try clear hb)) | ((with_reducible refine gate_dst (N := 8) rfl ?_); refine bxA 8 #[.int .u64 0, .bool false] 63 ?_; intro gb140 hg w13 hbox hb; have n0_ := Aside0.mk (blk_below (g := gb137) (o := .cells #[.int .u64 t134, .int .u64 t135] 54 (0, 0)) kA hb); have n1_ := Aside0.mk (below_step bA hb); have n2_ := Aside0.mk (hbox); have n3_ := Aside0.mk ((by rw [hg]; exact (below_size bA) : w.heap.size ≤ gb140)); have n4_ := Aside0.mk ((by rw [hg]; exact (below_size bA) : w.heap.size ≤ gb140)); have n5_ := Aside0.mk ((by rw [hg]; exact Nat.ne_of_lt (blk_lt (g := gb137) (o := .cells #[.int .u64 t134, .int .u64 t135] 54 (0, 0)) kA) : gb137 ≠ gb140)); have n6_ := Aside0.mk ((by rw [hg]; exact Nat.ne_of_gt (blk_lt (g := gb137) (o := .cells #[.int .u64 t134, .int .u64 t135] 54 (0, 0)) kA) : gb140 ≠ gb137)); clear BK137 HB; have BK137 := n0_; have HB := n1_; have BK140 := n2_; have GW140 := n3_; have GE140 := n4_; have NB137_140 := n5_; have NB140_137 := n6_; clear n0_ n1_ n2_ n3_ n4_ n5_ n6_ hb hbox hg; have hnb14 := NB140_137.out; have hnc14 := NB137_140.out; have hcz15_0 : w13.cell? ⟨gb140, 0, none⟩ = some (.int .u64 0) := (blk_cell BK140.out 0).trans rfl; have hcz15_1 : w13.cell? ⟨gb140, 1, none⟩ = some (.bool false) := (blk_cell BK140.out 1).trans rfl; have hfz15_0 := blk_frozen BK140.out 0; have hfz15_1 := blk_frozen BK140.out 1)))
 go_ret2
 exact ⟨by first | rfl | (simp [errW_none, errW_some] <;> rfl) | (simp [*, errW_none, errW_some] <;> rfl), bA⟩

/-! ### decay_Charge: function 26 -/
def decay_Charge.f (a0 : Int) (a1 : Int) : Option (Int) := if a1 < 0 then (some a0) else ((fixq_Of.f a1).bind fun bt141 => ((fixq_Add.f a0 bt141.1).bind fun bt143 => (some bt143.1)))
set_option maxHeartbeats 8000000 in
set_option maxRecDepth 100000 in
theorem decay_Charge.calls (a0 : Int) (a1 : Int) (r : Int) (w : World) (h : decay_Charge.f a0 a1 = some r) :
  Calls Tryd.prog 26 #[.int .u64 a0, .int .i64 a1] w fun e w' => e = .returned (.int .u64 r) ∧ Below w.heap.size w w' := by
 have HB := Aside0.mk (Below.refl w.heap.size w)
 have H : (if a1 < 0 then (some a0) else ((fixq_Of.f a1).bind fun bt141 => ((fixq_Add.f a0 bt141.1).bind fun bt143 => (some bt143.1)))) = some r := h
 clear h
 by_cases c3 : a1 < 0
 ·rw [if_pos c3] at H
  have c3b0 : decide (a1 < 0) = true := decide_eq_true c3
  clear c3
  obtain rfl := Option.some.inj H
  go_enter Tryd.func26, Tryd.ntmps26
  go_wp2
  go_ret
  exact ⟨by first | rfl | (simp [errW_none, errW_some] <;> rfl) | (simp [*, errW_none, errW_some] <;> rfl), bA⟩
 ·rw [if_neg c3] at H
  have c3b0 : decide (a1 < 0) = false := decide_eq_false c3
  clear c3; replace H := Option.bind_eq_some_iff.mp H; obtain ⟨⟨t141, t142⟩, A40, H⟩ := H; replace H : ((fixq_Add.f a0 t141).bind fun bt143 => (some bt143.1)) = some r := H; have A4 := Aside0.mk A40; clear A40; replace H := Option.bind_eq_some_iff.mp H; obtain ⟨⟨t143, t144⟩, A50, H⟩ := H; replace H : (some t143) = some r := H; have A5 := Aside0.mk A50; clear A50
  obtain rfl := Option.some.inj H
  go_enter Tryd.func26, Tryd.ntmps26
  go_wp2_with (first | ((with_reducible refine gate_callee (f := 36) rfl ?_); refine goesL_ (some 14) rfl rfl Tryd.func36 (by kernel_rfl) rfl #[.int .i64 a1] rfl aA ?_; (with_reducible refine (fixq_Of.calls a1 t141 t142 _ A4.out).mono ?_); rintro e w6 ⟨rfl, hb⟩; refine ⟨_, rfl, ?_⟩; have n0_ := Aside0.mk (below_step bA hb); clear HB; have HB := n0_; clear n0_; (try clear hb)) | ((with_reducible refine gate_callee (f := 37) rfl ?_); refine goesL_ (some 20) rfl rfl Tryd.func37 (by kernel_rfl) rfl #[.int .u64 a0, .int .u64 t141] rfl aA ?_; (with_reducible refine (fixq_Add.calls a0 t141 t143 t144 _ A5.out).mono ?_); rintro e w7 ⟨rfl, hb⟩; refine ⟨_, rfl, ?_⟩; have n0_ := Aside0.mk (below_step bA hb); clear HB; have HB := n0_; clear n0_; (try clear hb)))
  go_ret
  exact ⟨by first | rfl | (simp [errW_none, errW_some] <;> rfl) | (simp [*, errW_none, errW_some] <;> rfl), bA⟩

end Go.Proofs.YtmgmggkebmgafaaDoor.GK
