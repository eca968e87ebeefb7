-- Laid by a program of this session (wip/tools/pr.py): contracts and pure functions; Lean checks it.
import Derived.Test.YtmgmggkebmgafaaDoorGLx0
import Derived.Test.YtmgmggkebmgafaaDoorGLx1
namespace Go.Proofs.YtmgmggkebmgafaaDoor.GL
open Go.RowKit Go.Proofs.YtmgmggkebmgafaaDoorW.PrintWords Go.Proofs.YtmgmggkebmgafaaDoorW.PrintLast Go.Proofs.YtmgmggkebmgafaaDoorW.PrintMore
attribute [local go_sem] max2_int min2_int max_two min_two max_three min_three max_four min_four   -- for this text's walks alone
set_option linter.unusedVariables false
set_option linter.unusedSimpArgs false

attribute [local go_sem high] eqA26
/-- The Rungs, as the program's text lays them. -/
def rungsL : List Int := [13043817825332782212, 15511800964685064948, 16915738899553466670, 17664662643191237676, 18051468387014017850, 18248035989933441396, 18347121020861646923, 18396865112328554660, 18421787711448657617, 18434261669329232139, 18440501815349552981, 18443622680442407997, 18445183311048607331, 18445963675871538003, 18446353870663572144, 18446548971154807801, 18446646522174239824, 18446695297877410578, 18446719685777359790, 18446731879739425373, 18446737976723480911, 18446741025216264367, 18446742549462845017, 18446743311586182573, 18446743692647863158, 18446743883178706403, 18446743978444128763, 18446744026076840128, 18446744049893195856, 18446744061801373732, 18446744067755462673, 18446744070732507144]
/-- The variable 'rungs' of package ladder holds them. -/
def LaidW (w : World) : Prop := ∀ j : Nat, j < 32 → w.cell? ⟨0, j, none⟩ = some (.int .u64 (rd rungsL (j : Int)))
theorem laid_below {w w1 : World} (hL : LaidW w) (hb : Below w.heap.size w w1) : LaidW w1 := fun j hj => pw_cell_below hb (hL j hj)
theorem laid_at {w : World} (hL : LaidW w) (i : Int) (h0 : 0 ≤ i) (h1 : i < 32) : w.cell? ⟨0, i.toNat, none⟩ = some (.int .u64 (rd rungsL i)) := by
  have := hL i.toNat (by omega)
  rwa [Int.toNat_of_nonneg h0] at this

/-! ### ladder_Rung: function 13 -/
def ladder_Rung.f (a0 : Int) : Option Int := if a0 < 1 then some 0 else (if a0 > 32 then some 0 else some (rd rungsL (a0 - 1)))
set_option maxHeartbeats 8000000 in
set_option maxRecDepth 100000 in
theorem ladder_Rung.calls (a0 : Int) (r : Int) (w : World) (hL : LaidW w) (h : ladder_Rung.f a0 = some r) :
    Calls Tryd.prog 13 #[.int .i64 a0] w fun e w' => e = .returned (.int .u64 r) ∧ Below w.heap.size w w' := by
  have HB := Aside0.mk (Below.refl w.heap.size w)
  unfold ladder_Rung.f at h
  by_cases c2 : a0 < 1
  · rw [if_pos c2] at h
    obtain rfl := Option.some.inj h
    have c2b0 : decide (a0 < 1) = true := decide_eq_true c2
    clear c2 h
    go_enter Tryd.func13, Tryd.ntmps13
    go_wp2
    go_ret
    exact ⟨rfl, bA⟩
  · rw [if_neg c2] at h
    have c2b0 : decide (a0 < 1) = false := decide_eq_false c2
    by_cases c3 : a0 > 32
    · rw [if_pos c3] at h
      obtain rfl := Option.some.inj h
      have c3b0 : decide (32 < a0) = true := decide_eq_true c3
      clear c2 c3 h
      go_enter Tryd.func13, Tryd.ntmps13
      go_wp2
      go_ret
      exact ⟨rfl, bA⟩
    · rw [if_neg c3] at h
      obtain rfl := Option.some.inj h
      have c3b0 : decide (32 < a0) = false := decide_eq_false c3
      obtain ⟨j, rfl⟩ : ∃ j : Nat, a0 = (j : Int) + 1 := ⟨(a0 - 1).toNat, by omega⟩
      have hj : j < 32 := by omega
      have hc : w.cell? ⟨0, j, none⟩ = some (.int .u64 (rd rungsL (j : Int))) := hL j hj
      have hz : (j : Int) + 1 - 1 = (j : Int) := by omega
      rw [hz]
      clear c2 c3 h hz
      go_enter Tryd.func13, Tryd.ntmps13
      go_wp2
      go_ret
      exact ⟨rfl, bA⟩

/-! ### bits_Mul64: function 42 -/
def bits_Mul64.f (a0 : Int) (a1 : Int) : Option (Int × Int) := some (IntKind.u64.wrap ((IntKind.u64.wrap ((IntKind.u64.wrap ((a0 / 4294967296) * (a1 / 4294967296))) + ((IntKind.u64.wrap ((IntKind.u64.wrap ((a0 / 4294967296) * (Go.bits .and .u64 a1 4294967295))) + ((IntKind.u64.wrap ((Go.bits .and .u64 a0 4294967295) * (Go.bits .and .u64 a1 4294967295))) / 4294967296))) / 4294967296))) + ((IntKind.u64.wrap ((Go.bits .and .u64 (IntKind.u64.wrap ((IntKind.u64.wrap ((a0 / 4294967296) * (Go.bits .and .u64 a1 4294967295))) + ((IntKind.u64.wrap ((Go.bits .and .u64 a0 4294967295) * (Go.bits .and .u64 a1 4294967295))) / 4294967296))) 4294967295) + (IntKind.u64.wrap ((Go.bits .and .u64 a0 4294967295) * (a1 / 4294967296))))) / 4294967296)), IntKind.u64.wrap (a0 * a1))
set_option maxHeartbeats 8000000 in
set_option maxRecDepth 100000 in
theorem bits_Mul64.calls (a0 : Int) (a1 : Int) (r1 : Int) (r2 : Int) (w : World) (h : bits_Mul64.f a0 a1 = some (r1, r2)) :
    Calls Tryd.prog 42 #[.int .u64 a0, .int .u64 a1] w fun e w' => e = .returned (.tuple #[.int .u64 r1, .int .u64 r2]) ∧ Drawn0 w w' := by
  have H : (some (IntKind.u64.wrap ((IntKind.u64.wrap ((IntKind.u64.wrap ((a0 / 4294967296) * (a1 / 4294967296))) + ((IntKind.u64.wrap ((IntKind.u64.wrap ((a0 / 4294967296) * (Go.bits .and .u64 a1 4294967295))) + ((IntKind.u64.wrap ((Go.bits .and .u64 a0 4294967295) * (Go.bits .and .u64 a1 4294967295))) / 4294967296))) / 4294967296))) + ((IntKind.u64.wrap ((Go.bits .and .u64 (IntKind.u64.wrap ((IntKind.u64.wrap ((a0 / 4294967296) * (Go.bits .and .u64 a1 4294967295))) + ((IntKind.u64.wrap ((Go.bits .and .u64 a0 4294967295) * (Go.bits .and .u64 a1 4294967295))) / 4294967296))) 4294967295) + (IntKind.u64.wrap ((Go.bits .and .u64 a0 4294967295) * (a1 / 4294967296))))) / 4294967296)), IntKind.u64.wrap (a0 * a1))) = some (r1, r2) := h
  clear h
  simp only [Option.some.injEq, Prod.mk.injEq] at H
  obtain ⟨rfl, rfl⟩ := H
  go_enter Tryd.func42, Tryd.ntmps42
  go_wp2
  go_ret2
  exact ⟨by first | rfl | (simp; done) | (simp [*]; done), by repeat (first | exact Drawn0.refl _ | apply Drawn0.step)⟩

/-! ### wide_Mul: function 33 -/
def wide_Mul.f (a0 : Int) (a1 : Int) : Option (Int × Int) := (bits_Mul64.f a0 a1).bind fun bt102 => (some (bt102.1, bt102.2))
set_option maxHeartbeats 8000000 in
set_option maxRecDepth 100000 in
theorem wide_Mul.calls (a0 : Int) (a1 : Int) (r1 : Int) (r2 : Int) (w : World) (h : wide_Mul.f a0 a1 = some (r1, r2)) :
    Calls Tryd.prog 33 #[.int .u64 a0, .int .u64 a1] w fun e w' => e = .returned (.agg #[.int .u64 r1, .int .u64 r2]) ∧ Below w.heap.size w w' := by
  have hu54 := Tryd.underlying54
  have HB := Aside0.mk (Below.refl w.heap.size w)
  have H : ((bits_Mul64.f a0 a1).bind fun bt102 => (some (bt102.1, bt102.2))) = some (r1, r2) := h
  clear h
  replace H := Option.bind_eq_some_iff.mp H
  obtain ⟨⟨t102, t103⟩, A30, H⟩ := H
  replace H : (some (t102, t103)) = some (r1, r2) := H
  have A3 := Aside0.mk A30
  clear A30
  simp only [Option.some.injEq, Prod.mk.injEq] at H
  obtain ⟨rfl, rfl⟩ := H
  go_enter Tryd.func33, Tryd.ntmps33
  go_wp2_with (first | ((with_reducible refine gate_dst (N := 4) rfl ?_); refine box_event ?hg (N := 4) ?hd (cs := #[.int .u64 0, .int .u64 0]) (t := 54) ?hr ?_; (case hd => rfl); (case hg => rfl); (case hr => first | (go_simp; done) | (go_simp; rfl)); intro gb101 hg w4 hbox hb; have n0_ := Aside0.mk (below_step bA hb); have n1_ := Aside0.mk (hbox); have n2_ := Aside0.mk ((by rw [hg]; exact (below_size bA) : w.heap.size ≤ gb101)); have n3_ := Aside0.mk ((by rw [hg]; exact (below_size bA) : w.heap.size ≤ gb101)); clear HB; have HB := n0_; have BK101 := n1_; have GW101 := n2_; have GE101 := n3_; clear n0_ n1_ n2_ n3_; clear hb hbox hg) | ((with_reducible refine gate_callee (f := 42) rfl ?_); refine goesL_ (some 10) rfl rfl Tryd.func42 (by kernel_rfl) rfl #[.int .u64 a0, .int .u64 a1] rfl aA ?_; (with_reducible refine (bits_Mul64.calls a0 a1 t102 t103 _ A3.out).mono ?_); rintro e w' ⟨rfl, ⟨nd, rfl⟩⟩; refine ⟨_, rfl, ?_⟩; (try (rw [drewN_self w4]; generalize hq_ : World.drewN w4 _ = w4; have n0_ : Aside0 (w4.heap[gb101]? = some (.cells #[.int .u64 0, .int .u64 0] 54 (0, 0))) := ⟨by rw [← hq_]; exact (by (with_reducible repeat (first | refine blk_drewN ?_ _ | refine blk_drew ?_ | refine blk_alloc ?_ _)); exact BK101.out)⟩; have n1_ : Aside0 (Below w.heap.size w w4) := ⟨by rw [← hq_]; exact (by repeat (first | (with_reducible first | exact HB.out | apply below_alloc | apply pw_below_drewN | apply below_drew1 | refine below_set ?_ GE101.out) | exact HB.out))⟩; clear BK101 HB hq_; have BK101 := n0_; have HB := n1_; clear n0_ n1_)); have hcz5_0 : w4.cell? ⟨gb101, 0, none⟩ = some (.int .u64 0) := (blk_cell BK101.out 0).trans rfl; have hcz5_1 : w4.cell? ⟨gb101, 1, none⟩ = some (.int .u64 0) := (blk_cell BK101.out 1).trans rfl; have hfz5_0 := blk_frozen BK101.out 0; have hfz5_1 := blk_frozen BK101.out 1))
  refine bodyPost_ret (results_cell_row rfl _ _ gb101 54 #[.int .u64 t102, .int .u64 t103] (0, 0) _ rfl (by (with_reducible repeat (first | refine blk_drewN ?_ _ | refine blk_drew ?_ | refine blk_alloc ?_ _)); refine blk_put (cs := #[.int .u64 t102, .int .u64 0]) ?_ 1 _ rfl; (with_reducible repeat (first | refine blk_drewN ?_ _ | refine blk_drew ?_ | refine blk_alloc ?_ _)); refine blk_put (cs := #[.int .u64 0, .int .u64 0]) ?_ 0 _ rfl; (with_reducible repeat (first | refine blk_drewN ?_ _ | refine blk_drew ?_ | refine blk_alloc ?_ _)); exact BK101.out) Tryd.underlying54 rfl (by kernel_rfl)) rfl ?_
  exact ⟨by first | rfl | (simp [errW_none, errW_some] <;> rfl) | (simp [*, errW_none, errW_some] <;> rfl), by repeat (first | (with_reducible first | exact HB.out | apply below_alloc | apply pw_below_drewN | apply below_drew1 | refine below_set ?_ GE101.out) | exact HB.out)⟩

/-! ### ladder_Half: function 19 -/
def ladder_Half.go : Nat → Int → Int → Option Int
  | 0, _, t => some t
  | d + 1, e, t => if Go.bits .and .u64 e (IntKind.u64.wrap (2 ^ d)) = 0 then ladder_Half.go d e t else (wide_Mul.f t (rd rungsL ((31 - d : Nat) : Int))).bind fun p => ladder_Half.go d e p.1
/-- One half to the power of e / 2^32. -/
def ladder_Half.f (a0 : Int) : Option Int := if a0 / 4294967296 ≥ 63 then some 0 else (if 0 ≤ a0 then (ladder_Half.go 32 a0 9223372036854775808).bind fun t => some (t / 2 ^ (a0 / 4294967296).toNat) else none)
set_option maxHeartbeats 8000000 in
set_option maxRecDepth 100000 in
theorem ladder_Half.calls (a0 : Int) (r : Int) (w : World) (hL : LaidW w) (h : ladder_Half.f a0 = some r) :
    Calls Tryd.prog 19 #[.int .u64 a0] w fun e w' => e = .returned (.int .u64 r) ∧ Below w.heap.size w w' := by
  have hfd : ∀ (x y : Int) (W : World), (Instr.field 54 (.agg #[.int .u64 x, .int .u64 y]) 0).run Tryd.prog W = .ok (.int .u64 x) W := by intros; kernel_rfl
  have HB := Aside0.mk (Below.refl w.heap.size w)
  have H : (if a0 / 4294967296 ≥ 63 then some 0 else (if 0 ≤ a0 then (ladder_Half.go 32 a0 9223372036854775808).bind fun t => some (t / 2 ^ (a0 / 4294967296).toNat) else none)) = some r := h
  clear h
  by_cases c2 : a0 / 4294967296 ≥ 63
  · rw [if_pos c2] at H
    have c2b0 : decide (63 ≤ (a0 / 4294967296)) = true := decide_eq_true c2
    clear c2
    obtain rfl := Option.some.inj H
    go_enter Tryd.func19, Tryd.ntmps19
    go_wp2
    go_ret
    exact ⟨rfl, bA⟩
  · rw [if_neg c2] at H
    by_cases c3 : 0 ≤ a0
    · rw [if_pos c3] at H
      have c2b0 : decide (63 ≤ (a0 / 4294967296)) = false := decide_eq_false c2
      have q0 : 0 ≤ a0 / 4294967296 := by omega
      have q1 : a0 / 4294967296 ≤ 62 := by omega
      clear c2
      obtain ⟨t, A30, H⟩ := Option.bind_eq_some_iff.mp H
      have A3 := Aside0.mk A30
      clear A30
      have H' := Aside0.mk (Option.some.inj H)
      clear H
      go_enter Tryd.func19, Tryd.ntmps19
      go_wp2
      go_loopg [4, 10] 32 (fun kq v4 v10 w' => ∃ (x4 : Int) (j : Nat), v4 = .int .u64 x4 ∧ v10 = .int .i64 (j : Int) ∧ Aside0 (j + kq = 32) ∧ j ≤ 32 ∧ Aside0 (ladder_Half.go kq a0 x4 = some t) ∧ Aside0 (Below w.heap.size w w'))
      case atStart => exact ⟨9223372036854775808, 0, rfl, rfl, ⟨rfl⟩, by omega, A3, ⟨bA⟩⟩
      case round =>
        obtain ⟨x4, j, rfl, rfl, HD, hj, HA, HB⟩ := hrel
        cases gk with
        | zero =>
          have HD := HD.out
          have hx : x4 = t := Option.some.inj HA.out
          subst hx
          obtain rfl : j = 32 := by omega
          clear HD
          go_wp2
          go_ret
          exact ⟨by rw [← H'.out]; rfl, bA⟩
        | succ d =>
          have HD1 := HD.out
          have hj31 : j ≤ 31 := by omega
          have hlt : decide ((j : Int) < 32) = true := decide_eq_true (by omega)
          obtain rfl : d = 31 - j := by omega
          have hc : wr.cell? ⟨0, j, none⟩ = some (.int .u64 (rd rungsL (j : Int))) := laid_below hL HB.out j (by omega)
          have H := HA.out
          clear HA HD1 HD
          simp only [ladder_Half.go] at H
          rw [show 31 - (31 - j) = j by omega] at H
          by_cases c5 : Go.bits .and .u64 a0 (IntKind.u64.wrap (2 ^ (31 - j))) = 0
          · rw [if_pos c5] at H
            have c5b1 : (Go.bits .and .u64 a0 (IntKind.u64.wrap (2 ^ (31 - j))) != 0) = false := bne_eq_false_iff_eq.mpr c5
            clear c5
            have H2 := Aside0.mk H
            clear H
            go_wp2
            go_roundg (31 - j)
            case measure => omega
            case rel => exact ⟨x4, j + 1, rfl, by go_num, ⟨by omega⟩, by omega, H2, ⟨bA⟩⟩
          · rw [if_neg c5] at H
            have c5b1 : (Go.bits .and .u64 a0 (IntKind.u64.wrap (2 ^ (31 - j))) != 0) = true := bne_iff_ne.mpr c5
            clear c5
            obtain ⟨⟨p1, p2⟩, A130, H⟩ := Option.bind_eq_some_iff.mp H
            have A13 := Aside0.mk A130
            have H2 := Aside0.mk H
            clear A130 H
            go_wp2_with (first | ((with_reducible refine gate_callee (f := 33) rfl ?_); refine goesL_ (some 23) rfl rfl Tryd.func33 (by kernel_rfl) rfl #[.int .u64 x4, .int .u64 (rd rungsL (j : Int))] rfl aA ?_; (with_reducible refine (wide_Mul.calls x4 (rd rungsL (j : Int)) p1 p2 _ A13.out).mono ?_); rintro e w15 ⟨rfl, hb⟩; refine ⟨_, rfl, ?_⟩; have n1_ := Aside0.mk (below_step bA hb); clear HB; have HB := n1_; clear n1_ hb hc))
            go_roundg (31 - j)
            case measure => omega
            case rel => exact ⟨p1, j + 1, rfl, by go_num, ⟨by omega⟩, by omega, H2, ⟨bA⟩⟩
    · rw [if_neg c3] at H
      cases H

/-! ### ladder_Bounds: function 17 -/
def ladder_Bounds.f (a0 : Int) : Option (Int × Int) := (ladder_Half.f a0).bind fun t104 => (some (t104, mn (IntKind.u64.wrap (t104 + 81)) 9223372036854775808))
set_option maxHeartbeats 8000000 in
set_option maxRecDepth 100000 in
theorem ladder_Bounds.calls (a0 : Int) (r1 : Int) (r2 : Int) (w : World) (hL : LaidW w) (h : ladder_Bounds.f a0 = some (r1, r2)) :
    Calls Tryd.prog 17 #[.int .u64 a0] w fun e w' => e = .returned (.tuple #[.int .u64 r1, .int .u64 r2]) ∧ Below w.heap.size w w' := by
  have HB := Aside0.mk (Below.refl w.heap.size w)
  have H : ((ladder_Half.f a0).bind fun t104 => (some (t104, mn (IntKind.u64.wrap (t104 + 81)) 9223372036854775808))) = some (r1, r2) := h
  clear h
  replace H := Option.bind_eq_some_iff.mp H
  obtain ⟨t104, A20, H⟩ := H
  replace H : (some (t104, mn (IntKind.u64.wrap (t104 + 81)) 9223372036854775808)) = some (r1, r2) := H
  have A2 := Aside0.mk A20
  clear A20
  obtain ⟨ji3, hji3⟩ : ∃ j_ : Int, (mn (IntKind.u64.wrap (t104 + 81)) 9223372036854775808) = j_ := ⟨_, rfl⟩
  replace H : (some (t104, ji3)) = some (r1, r2) := by first | (rw [hji3] at H; exact H) | (simp only [hji3] at H ⊢; exact H)
  (try rw [hji3] at A2)
  (try (have hji3h : ji3 ≤ 9223372036854775808 := by (rw [← hji3]; unfold mn; (repeat' split) <;> omega)))
  (try (have hji3g : ji3 ≤ 64 := by omega))
  have hji3_ : (if 9223372036854775808 < (IntKind.u64.wrap (t104 + 81)) then 9223372036854775808 else (IntKind.u64.wrap (t104 + 81))) = ji3 := hji3
  simp only [Option.some.injEq, Prod.mk.injEq] at H
  obtain ⟨rfl, rfl⟩ := H
  go_enter Tryd.func17, Tryd.ntmps17
  go_wp2_with (first | ((with_reducible refine gate_callee (f := 19) rfl ?_); refine goesL_ (some 6) rfl rfl Tryd.func19 (by kernel_rfl) rfl #[.int .u64 a0] rfl aA ?_; (with_reducible refine (ladder_Half.calls a0 t104 _ ?side1 A2.out).mono ?_); (case side1 => exact laid_below hL bA); rintro e w4 ⟨rfl, hb⟩; refine ⟨_, rfl, ?_⟩; have n0_ := Aside0.mk (below_step bA hb); clear HB; have HB := n0_; clear n0_; (try clear hb); (try clear hb2); (try clear hk); (try clear hi)))
  go_ret2
  exact ⟨by first | rfl | (simp [errW_none, errW_some] <;> rfl) | (simp only [← hji3]; first | rfl | (simp [errW_none, errW_some] <;> rfl)) | (simp [*, errW_none, errW_some] <;> rfl), bA⟩

/-! ### backfilllaw07_shown: function 12 -/
def backfilllaw07_shown.f  : Option (Bool) := (ladder_Bounds.f 18446744073709551615).bind fun bt105 => ((ladder_Rung.f 1).bind fun t107 => (if t107 = 13043817825332782212 then ((ladder_Rung.f 33).bind fun t108 => (if t108 = 0 then ((ladder_Half.f 0).bind fun t109 => (if t109 = 9223372036854775808 then ((ladder_Half.f 2147483648).bind fun t110 => (if t110 = 6521908912666391106 then ((ladder_Half.f 266287972352).bind fun t111 => (if t111 = 2 then (if bt105.1 = 0 then (some (bt105.2 == 81)) else (some false)) else (some false))) else (some false))) else (some false))) else (some false))) else (some false)))
set_option maxHeartbeats 8000000 in
set_option maxRecDepth 100000 in
theorem backfilllaw07_shown.calls  (r : Bool) (w : World) (hL : LaidW w) (h : backfilllaw07_shown.f  = some r) :
    Calls Tryd.prog 12 #[] w fun e w' => e = .returned (.bool r) ∧ Below w.heap.size w w' := by
  have HB := Aside0.mk (Below.refl w.heap.size w)
  have H : ((ladder_Bounds.f 18446744073709551615).bind fun bt105 => ((ladder_Rung.f 1).bind fun t107 => (if t107 = 13043817825332782212 then ((ladder_Rung.f 33).bind fun t108 => (if t108 = 0 then ((ladder_Half.f 0).bind fun t109 => (if t109 = 9223372036854775808 then ((ladder_Half.f 2147483648).bind fun t110 => (if t110 = 6521908912666391106 then ((ladder_Half.f 266287972352).bind fun t111 => (if t111 = 2 then (if bt105.1 = 0 then (some (bt105.2 == 81)) else (some false)) else (some false))) else (some false))) else (some false))) else (some false))) else (some false)))) = some r := h
  clear h
  replace H := Option.bind_eq_some_iff.mp H
  obtain ⟨⟨t105, t106⟩, A10, H⟩ := H
  replace H : ((ladder_Rung.f 1).bind fun t107 => (if t107 = 13043817825332782212 then ((ladder_Rung.f 33).bind fun t108 => (if t108 = 0 then ((ladder_Half.f 0).bind fun t109 => (if t109 = 9223372036854775808 then ((ladder_Half.f 2147483648).bind fun t110 => (if t110 = 6521908912666391106 then ((ladder_Half.f 266287972352).bind fun t111 => (if t111 = 2 then (if t105 = 0 then (some (t106 == 81)) else (some false)) else (some false))) else (some false))) else (some false))) else (some false))) else (some false))) = some r := H
  have A1 := Aside0.mk A10
  clear A10
  replace H := Option.bind_eq_some_iff.mp H
  obtain ⟨t107, A20, H⟩ := H
  replace H : (if t107 = 13043817825332782212 then ((ladder_Rung.f 33).bind fun t108 => (if t108 = 0 then ((ladder_Half.f 0).bind fun t109 => (if t109 = 9223372036854775808 then ((ladder_Half.f 2147483648).bind fun t110 => (if t110 = 6521908912666391106 then ((ladder_Half.f 266287972352).bind fun t111 => (if t111 = 2 then (if t105 = 0 then (some (t106 == 81)) else (some false)) else (some false))) else (some false))) else (some false))) else (some false))) else (some false)) = some r := H
  have A2 := Aside0.mk A20
  clear A20
  by_cases c3 : t107 = 13043817825332782212
  · rw [if_pos c3] at H
    have c3b0 : (t107 == 13043817825332782212) = true := beq_iff_eq.mpr c3
    have c3b1 : (t107 != 13043817825332782212) = false := bne_eq_false_iff_eq.mpr c3
    clear c3
    replace H := Option.bind_eq_some_iff.mp H
    obtain ⟨t108, A40, H⟩ := H
    replace H : (if t108 = 0 then ((ladder_Half.f 0).bind fun t109 => (if t109 = 9223372036854775808 then ((ladder_Half.f 2147483648).bind fun t110 => (if t110 = 6521908912666391106 then ((ladder_Half.f 266287972352).bind fun t111 => (if t111 = 2 then (if t105 = 0 then (some (t106 == 81)) else (some false)) else (some false))) else (some false))) else (some false))) else (some false)) = some r := H
    have A4 := Aside0.mk A40
    clear A40
    by_cases c5 : t108 = 0
    · rw [if_pos c5] at H
      have c5b0 : (t108 == 0) = true := beq_iff_eq.mpr c5
      have c5b1 : (t108 != 0) = false := bne_eq_false_iff_eq.mpr c5
      clear c5
      replace H := Option.bind_eq_some_iff.mp H
      obtain ⟨t109, A60, H⟩ := H
      replace H : (if t109 = 9223372036854775808 then ((ladder_Half.f 2147483648).bind fun t110 => (if t110 = 6521908912666391106 then ((ladder_Half.f 266287972352).bind fun t111 => (if t111 = 2 then (if t105 = 0 then (some (t106 == 81)) else (some false)) else (some false))) else (some false))) else (some false)) = some r := H
      have A6 := Aside0.mk A60
      clear A60
      by_cases c7 : t109 = 9223372036854775808
      · rw [if_pos c7] at H
        have c7b0 : (t109 == 9223372036854775808) = true := beq_iff_eq.mpr c7
        have c7b1 : (t109 != 9223372036854775808) = false := bne_eq_false_iff_eq.mpr c7
        clear c7
        replace H := Option.bind_eq_some_iff.mp H
        obtain ⟨t110, A80, H⟩ := H
        replace H : (if t110 = 6521908912666391106 then ((ladder_Half.f 266287972352).bind fun t111 => (if t111 = 2 then (if t105 = 0 then (some (t106 == 81)) else (some false)) else (some false))) else (some false)) = some r := H
        have A8 := Aside0.mk A80
        clear A80
        by_cases c9 : t110 = 6521908912666391106
        · rw [if_pos c9] at H
          have c9b0 : (t110 == 6521908912666391106) = true := beq_iff_eq.mpr c9
          have c9b1 : (t110 != 6521908912666391106) = false := bne_eq_false_iff_eq.mpr c9
          clear c9
          replace H := Option.bind_eq_some_iff.mp H
          obtain ⟨t111, A100, H⟩ := H
          replace H : (if t111 = 2 then (if t105 = 0 then (some (t106 == 81)) else (some false)) else (some false)) = some r := H
          have A10 := Aside0.mk A100
          clear A100
          by_cases c11 : t111 = 2
          · rw [if_pos c11] at H
            have c11b0 : (t111 == 2) = true := beq_iff_eq.mpr c11
            have c11b1 : (t111 != 2) = false := bne_eq_false_iff_eq.mpr c11
            clear c11
            by_cases c12 : t105 = 0
            · rw [if_pos c12] at H
              have c12b0 : (t105 == 0) = true := beq_iff_eq.mpr c12
              have c12b1 : (t105 != 0) = false := bne_eq_false_iff_eq.mpr c12
              clear c12
              obtain rfl := Option.some.inj H
              go_enter Tryd.func12, Tryd.ntmps12
              go_wp2_with (first | ((with_reducible refine gate_callee (f := 17) rfl ?_); refine goesL_ (some 4) rfl rfl Tryd.func17 (by kernel_rfl) rfl #[.int .u64 18446744073709551615] rfl aA ?_; (with_reducible refine (ladder_Bounds.calls 18446744073709551615 t105 t106 _ ?side1 A1.out).mono ?_); (case side1 => exact laid_below hL bA); rintro e w13 ⟨rfl, hb⟩; refine ⟨_, rfl, ?_⟩; have n0_ := Aside0.mk (below_step bA hb); clear HB; have HB := n0_; clear n0_; (try clear hb); (try clear hb2); (try clear hk); (try clear hi)) | ((with_reducible refine gate_callee (f := 13) rfl ?_); refine goesL_ (some 7) rfl rfl Tryd.func13 (by kernel_rfl) rfl #[.int .i64 1] rfl aA ?_; (with_reducible refine (ladder_Rung.calls 1 t107 _ ?side1 A2.out).mono ?_); (case side1 => exact laid_below hL bA); rintro e w14 ⟨rfl, hb⟩; refine ⟨_, rfl, ?_⟩; have n0_ := Aside0.mk (below_step bA hb); clear HB; have HB := n0_; clear n0_; (try clear hb); (try clear hb2); (try clear hk); (try clear hi)) | (go_at_call 13; (with_reducible refine (ladder_Rung.calls 33 t108 _ ?side1 A4.out).mono ?_); (case side1 => exact laid_below hL bA); rintro e w15 ⟨rfl, hb⟩; have n0_ := Aside0.mk (below_step bA hb); clear HB; have HB := n0_; clear n0_; (try clear hb); (try clear hb2); (try clear hk); (try clear hi)) | (go_at_call 19; (with_reducible refine (ladder_Half.calls 0 t109 _ ?side1 A6.out).mono ?_); (case side1 => exact laid_below hL bA); rintro e w16 ⟨rfl, hb⟩; have n0_ := Aside0.mk (below_step bA hb); clear HB; have HB := n0_; clear n0_; (try clear hb); (try clear hb2); (try clear hk); (try clear hi)) | (go_at_call 19; (with_reducible refine (ladder_Half.calls 2147483648 t110 _ ?side1 A8.out).mono ?_); (case side1 => exact laid_below hL bA); rintro e w17 ⟨rfl, hb⟩; have n0_ := Aside0.mk (below_step bA hb); clear HB; have HB := n0_; clear n0_; (try clear hb); (try clear hb2); (try clear hk); (try clear hi)) | (go_at_call 19; (with_reducible refine (ladder_Half.calls 266287972352 t111 _ ?side1 A10.out).mono ?_); (case side1 => exact laid_below hL bA); rintro e w18 ⟨rfl, hb⟩; have n0_ := Aside0.mk (below_step bA hb); clear HB; have HB := n0_; clear n0_; (try clear hb); (try clear hb2); (try clear hk); (try clear hi)))
              go_ret
              exact ⟨by first | rfl | (simp [errW_none, errW_some] <;> rfl) | (simp [*, errW_none, errW_some] <;> rfl), bA⟩
            · rw [if_neg c12] at H
              have c12b0 : (t105 == 0) = false := beq_eq_false_iff_ne.mpr c12
              have c12b1 : (t105 != 0) = true := bne_iff_ne.mpr c12
              obtain rfl := Option.some.inj H
              go_enter Tryd.func12, Tryd.ntmps12
              go_wp2_with (first | ((with_reducible refine gate_callee (f := 17) rfl ?_); refine goesL_ (some 4) rfl rfl Tryd.func17 (by kernel_rfl) rfl #[.int .u64 18446744073709551615] rfl aA ?_; (with_reducible refine (ladder_Bounds.calls 18446744073709551615 t105 t106 _ ?side1 A1.out).mono ?_); (case side1 => exact laid_below hL bA); rintro e w19 ⟨rfl, hb⟩; refine ⟨_, rfl, ?_⟩; have n0_ := Aside0.mk (below_step bA hb); clear HB; have HB := n0_; clear n0_; (try clear hb); (try clear hb2); (try clear hk); (try clear hi)) | ((with_reducible refine gate_callee (f := 13) rfl ?_); refine goesL_ (some 7) rfl rfl Tryd.func13 (by kernel_rfl) rfl #[.int .i64 1] rfl aA ?_; (with_reducible refine (ladder_Rung.calls 1 t107 _ ?side1 A2.out).mono ?_); (case side1 => exact laid_below hL bA); rintro e w20 ⟨rfl, hb⟩; refine ⟨_, rfl, ?_⟩; have n0_ := Aside0.mk (below_step bA hb); clear HB; have HB := n0_; clear n0_; (try clear hb); (try clear hb2); (try clear hk); (try clear hi)) | (go_at_call 13; (with_reducible refine (ladder_Rung.calls 33 t108 _ ?side1 A4.out).mono ?_); (case side1 => exact laid_below hL bA); rintro e w21 ⟨rfl, hb⟩; have n0_ := Aside0.mk (below_step bA hb); clear HB; have HB := n0_; clear n0_; (try clear hb); (try clear hb2); (try clear hk); (try clear hi)) | (go_at_call 19; (with_reducible refine (ladder_Half.calls 0 t109 _ ?side1 A6.out).mono ?_); (case side1 => exact laid_below hL bA); rintro e w22 ⟨rfl, hb⟩; have n0_ := Aside0.mk (below_step bA hb); clear HB; have HB := n0_; clear n0_; (try clear hb); (try clear hb2); (try clear hk); (try clear hi)) | (go_at_call 19; (with_reducible refine (ladder_Half.calls 2147483648 t110 _ ?side1 A8.out).mono ?_); (case side1 => exact laid_below hL bA); rintro e w23 ⟨rfl, hb⟩; have n0_ := Aside0.mk (below_step bA hb); clear HB; have HB := n0_; clear n0_; (try clear hb); (try clear hb2); (try clear hk); (try clear hi)) | (go_at_call 19; (with_reducible refine (ladder_Half.calls 266287972352 t111 _ ?side1 A10.out).mono ?_); (case side1 => exact laid_below hL bA); rintro e w24 ⟨rfl, hb⟩; have n0_ := Aside0.mk (below_step bA hb); clear HB; have HB := n0_; clear n0_; (try clear hb); (try clear hb2); (try clear hk); (try clear hi)))
              go_ret
              exact ⟨by first | rfl | (simp [errW_none, errW_some] <;> rfl) | (simp [*, errW_none, errW_some] <;> rfl), bA⟩
          · rw [if_neg c11] at H
            have c11b0 : (t111 == 2) = false := beq_eq_false_iff_ne.mpr c11
            have c11b1 : (t111 != 2) = true := bne_iff_ne.mpr c11
            obtain rfl := Option.some.inj H
            go_enter Tryd.func12, Tryd.ntmps12
            go_wp2_with (first | ((with_reducible refine gate_callee (f := 17) rfl ?_); refine goesL_ (some 4) rfl rfl Tryd.func17 (by kernel_rfl) rfl #[.int .u64 18446744073709551615] rfl aA ?_; (with_reducible refine (ladder_Bounds.calls 18446744073709551615 t105 t106 _ ?side1 A1.out).mono ?_); (case side1 => exact laid_below hL bA); rintro e w25 ⟨rfl, hb⟩; refine ⟨_, rfl, ?_⟩; have n0_ := Aside0.mk (below_step bA hb); clear HB; have HB := n0_; clear n0_; (try clear hb); (try clear hb2); (try clear hk); (try clear hi)) | ((with_reducible refine gate_callee (f := 13) rfl ?_); refine goesL_ (some 7) rfl rfl Tryd.func13 (by kernel_rfl) rfl #[.int .i64 1] rfl aA ?_; (with_reducible refine (ladder_Rung.calls 1 t107 _ ?side1 A2.out).mono ?_); (case side1 => exact laid_below hL bA); rintro e w26 ⟨rfl, hb⟩; refine ⟨_, rfl, ?_⟩; have n0_ := Aside0.mk (below_step bA hb); clear HB; have HB := n0_; clear n0_; (try clear hb); (try clear hb2); (try clear hk); (try clear hi)) | (go_at_call 13; (with_reducible refine (ladder_Rung.calls 33 t108 _ ?side1 A4.out).mono ?_); (case side1 => exact laid_below hL bA); rintro e w27 ⟨rfl, hb⟩; have n0_ := Aside0.mk (below_step bA hb); clear HB; have HB := n0_; clear n0_; (try clear hb); (try clear hb2); (try clear hk); (try clear hi)) | (go_at_call 19; (with_reducible refine (ladder_Half.calls 0 t109 _ ?side1 A6.out).mono ?_); (case side1 => exact laid_below hL bA); rintro e w28 ⟨rfl, hb⟩; have n0_ := Aside0.mk (below_step bA hb); clear HB; have HB := n0_; clear n0_; (try clear hb); (try clear hb2); (try clear hk); (try clear hi)) | (go_at_call 19; (with_reducible refine (ladder_Half.calls 2147483648 t110 _ ?side1 A8.out).mono ?_); (case side1 => exact laid_below hL bA); rintro e w29 ⟨rfl, hb⟩; have n0_ := Aside0.mk (below_step bA hb); clear HB; have HB := n0_; clear n0_; (try clear hb); (try clear hb2); (try clear hk); (try clear hi)) | (go_at_call 19; (with_reducible refine (ladder_Half.calls 266287972352 t111 _ ?side1 A10.out).mono ?_); (case side1 => exact laid_below hL bA); rintro e w30 ⟨rfl, hb⟩; have n0_ := Aside0.mk (below_step bA hb); clear HB; have HB := n0_; clear n0_; (try clear hb); (try clear hb2); (try clear hk); (try clear hi)))
            go_ret
            exact ⟨by first | rfl | (simp [errW_none, errW_some] <;> rfl) | (simp [*, errW_none, errW_some] <;> rfl), bA⟩
        · rw [if_neg c9] at H
          have c9b0 : (t110 == 6521908912666391106) = false := beq_eq_false_iff_ne.mpr c9
          have c9b1 : (t110 != 6521908912666391106) = true := bne_iff_ne.mpr c9
          obtain rfl := Option.some.inj H
          go_enter Tryd.func12, Tryd.ntmps12
          go_wp2_with (first | ((with_reducible refine gate_callee (f := 17) rfl ?_); refine goesL_ (some 4) rfl rfl Tryd.func17 (by kernel_rfl) rfl #[.int .u64 18446744073709551615] rfl aA ?_; (with_reducible refine (ladder_Bounds.calls 18446744073709551615 t105 t106 _ ?side1 A1.out).mono ?_); (case side1 => exact laid_below hL bA); rintro e w31 ⟨rfl, hb⟩; refine ⟨_, rfl, ?_⟩; have n0_ := Aside0.mk (below_step bA hb); clear HB; have HB := n0_; clear n0_; (try clear hb); (try clear hb2); (try clear hk); (try clear hi)) | ((with_reducible refine gate_callee (f := 13) rfl ?_); refine goesL_ (some 7) rfl rfl Tryd.func13 (by kernel_rfl) rfl #[.int .i64 1] rfl aA ?_; (with_reducible refine (ladder_Rung.calls 1 t107 _ ?side1 A2.out).mono ?_); (case side1 => exact laid_below hL bA); rintro e w32 ⟨rfl, hb⟩; refine ⟨_, rfl, ?_⟩; have n0_ := Aside0.mk (below_step bA hb); clear HB; have HB := n0_; clear n0_; (try clear hb); (try clear hb2); (try clear hk); (try clear hi)) | (go_at_call 13; (with_reducible refine (ladder_Rung.calls 33 t108 _ ?side1 A4.out).mono ?_); (case side1 => exact laid_below hL bA); rintro e w33 ⟨rfl, hb⟩; have n0_ := Aside0.mk (below_step bA hb); clear HB; have HB := n0_; clear n0_; (try clear hb); (try clear hb2); (try clear hk); (try clear hi)) | (go_at_call 19; (with_reducible refine (ladder_Half.calls 0 t109 _ ?side1 A6.out).mono ?_); (case side1 => exact laid_below hL bA); rintro e w34 ⟨rfl, hb⟩; have n0_ := Aside0.mk (below_step bA hb); clear HB; have HB := n0_; clear n0_; (try clear hb); (try clear hb2); (try clear hk); (try clear hi)) | (go_at_call 19; (with_reducible refine (ladder_Half.calls 2147483648 t110 _ ?side1 A8.out).mono ?_); (case side1 => exact laid_below hL bA); rintro e w35 ⟨rfl, hb⟩; have n0_ := Aside0.mk (below_step bA hb); clear HB; have HB := n0_; clear n0_; (try clear hb); (try clear hb2); (try clear hk); (try clear hi)))
          go_ret
          exact ⟨by first | rfl | (simp [errW_none, errW_some] <;> rfl) | (simp [*, errW_none, errW_some] <;> rfl), bA⟩
      · rw [if_neg c7] at H
        have c7b0 : (t109 == 9223372036854775808) = false := beq_eq_false_iff_ne.mpr c7
        have c7b1 : (t109 != 9223372036854775808) = true := bne_iff_ne.mpr c7
        obtain rfl := Option.some.inj H
        go_enter Tryd.func12, Tryd.ntmps12
        go_wp2_with (first | ((with_reducible refine gate_callee (f := 17) rfl ?_); refine goesL_ (some 4) rfl rfl Tryd.func17 (by kernel_rfl) rfl #[.int .u64 18446744073709551615] rfl aA ?_; (with_reducible refine (ladder_Bounds.calls 18446744073709551615 t105 t106 _ ?side1 A1.out).mono ?_); (case side1 => exact laid_below hL bA); rintro e w36 ⟨rfl, hb⟩; refine ⟨_, rfl, ?_⟩; have n0_ := Aside0.mk (below_step bA hb); clear HB; have HB := n0_; clear n0_; (try clear hb); (try clear hb2); (try clear hk); (try clear hi)) | ((with_reducible refine gate_callee (f := 13) rfl ?_); refine goesL_ (some 7) rfl rfl Tryd.func13 (by kernel_rfl) rfl #[.int .i64 1] rfl aA ?_; (with_reducible refine (ladder_Rung.calls 1 t107 _ ?side1 A2.out).mono ?_); (case side1 => exact laid_below hL bA); rintro e w37 ⟨rfl, hb⟩; refine ⟨_, rfl, ?_⟩; have n0_ := Aside0.mk (below_step bA hb); clear HB; have HB := n0_; clear n0_; (try clear hb); (try clear hb2); (try clear hk); (try clear hi)) | (go_at_call 13; (with_reducible refine (ladder_Rung.calls 33 t108 _ ?side1 A4.out).mono ?_); (case side1 => exact laid_below hL bA); rintro e w38 ⟨rfl, hb⟩; have n0_ := Aside0.mk (below_step bA hb); clear HB; have HB := n0_; clear n0_; (try clear hb); (try clear hb2); (try clear hk); (try clear hi)) | (go_at_call 19; (with_reducible refine (ladder_Half.calls 0 t109 _ ?side1 A6.out).mono ?_); (case side1 => exact laid_below hL bA); rintro e w39 ⟨rfl, hb⟩; have n0_ := Aside0.mk (below_step bA hb); clear HB; have HB := n0_; clear n0_; (try clear hb); (try clear hb2); (try clear hk); (try clear hi)))
        go_ret
        exact ⟨by first | rfl | (simp [errW_none, errW_some] <;> rfl) | (simp [*, errW_none, errW_some] <;> rfl), bA⟩
    · rw [if_neg c5] at H
      have c5b0 : (t108 == 0) = false := beq_eq_false_iff_ne.mpr c5
      have c5b1 : (t108 != 0) = true := bne_iff_ne.mpr c5
      obtain rfl := Option.some.inj H
      go_enter Tryd.func12, Tryd.ntmps12
      go_wp2_with (first | ((with_reducible refine gate_callee (f := 17) rfl ?_); refine goesL_ (some 4) rfl rfl Tryd.func17 (by kernel_rfl) rfl #[.int .u64 18446744073709551615] rfl aA ?_; (with_reducible refine (ladder_Bounds.calls 18446744073709551615 t105 t106 _ ?side1 A1.out).mono ?_); (case side1 => exact laid_below hL bA); rintro e w40 ⟨rfl, hb⟩; refine ⟨_, rfl, ?_⟩; have n0_ := Aside0.mk (below_step bA hb); clear HB; have HB := n0_; clear n0_; (try clear hb); (try clear hb2); (try clear hk); (try clear hi)) | ((with_reducible refine gate_callee (f := 13) rfl ?_); refine goesL_ (some 7) rfl rfl Tryd.func13 (by kernel_rfl) rfl #[.int .i64 1] rfl aA ?_; (with_reducible refine (ladder_Rung.calls 1 t107 _ ?side1 A2.out).mono ?_); (case side1 => exact laid_below hL bA); rintro e w41 ⟨rfl, hb⟩; refine ⟨_, rfl, ?_⟩; have n0_ := Aside0.mk (below_step bA hb); clear HB; have HB := n0_; clear n0_; (try clear hb); (try clear hb2); (try clear hk); (try clear hi)) | (go_at_call 13; (with_reducible refine (ladder_Rung.calls 33 t108 _ ?side1 A4.out).mono ?_); (case side1 => exact laid_below hL bA); rintro e w42 ⟨rfl, hb⟩; have n0_ := Aside0.mk (below_step bA hb); clear HB; have HB := n0_; clear n0_; (try clear hb); (try clear hb2); (try clear hk); (try clear hi)))
      go_ret
      exact ⟨by first | rfl | (simp [errW_none, errW_some] <;> rfl) | (simp [*, errW_none, errW_some] <;> rfl), bA⟩
  · rw [if_neg c3] at H
    have c3b0 : (t107 == 13043817825332782212) = false := beq_eq_false_iff_ne.mpr c3
    have c3b1 : (t107 != 13043817825332782212) = true := bne_iff_ne.mpr c3
    obtain rfl := Option.some.inj H
    go_enter Tryd.func12, Tryd.ntmps12
    go_wp2_with (first | ((with_reducible refine gate_callee (f := 17) rfl ?_); refine goesL_ (some 4) rfl rfl Tryd.func17 (by kernel_rfl) rfl #[.int .u64 18446744073709551615] rfl aA ?_; (with_reducible refine (ladder_Bounds.calls 18446744073709551615 t105 t106 _ ?side1 A1.out).mono ?_); (case side1 => exact laid_below hL bA); rintro e w43 ⟨rfl, hb⟩; refine ⟨_, rfl, ?_⟩; have n0_ := Aside0.mk (below_step bA hb); clear HB; have HB := n0_; clear n0_; (try clear hb); (try clear hb2); (try clear hk); (try clear hi)) | ((with_reducible refine gate_callee (f := 13) rfl ?_); refine goesL_ (some 7) rfl rfl Tryd.func13 (by kernel_rfl) rfl #[.int .i64 1] rfl aA ?_; (with_reducible refine (ladder_Rung.calls 1 t107 _ ?side1 A2.out).mono ?_); (case side1 => exact laid_below hL bA); rintro e w44 ⟨rfl, hb⟩; refine ⟨_, rfl, ?_⟩; have n0_ := Aside0.mk (below_step bA hb); clear HB; have HB := n0_; clear n0_; (try clear hb); (try clear hb2); (try clear hk); (try clear hi)))
    go_ret
    exact ⟨by first | rfl | (simp [errW_none, errW_some] <;> rfl) | (simp [*, errW_none, errW_some] <;> rfl), bA⟩

/-! ### backfillref07_rungs: function 32 -/
def backfillref07_rungs.f  : Option (List Int) := some (([13043817825332782212, 15511800964685064948, 16915738899553466670, 17664662643191237676, 18051468387014017850, 18248035989933441396, 18347121020861646923, 18396865112328554660, 18421787711448657617, 18434261669329232139, 18440501815349552981, 18443622680442407997, 18445183311048607331, 18445963675871538003, 18446353870663572144, 18446548971154807801, 18446646522174239824, 18446695297877410578, 18446719685777359790, 18446731879739425373, 18446737976723480911, 18446741025216264367, 18446742549462845017, 18446743311586182573, 18446743692647863158, 18446743883178706403, 18446743978444128763, 18446744026076840128, 18446744049893195856, 18446744061801373732, 18446744067755462673, 18446744070732507144] : List Int))
set_option maxHeartbeats 8000000 in
set_option maxRecDepth 100000 in
theorem backfillref07_rungs.calls  (r : List Int) (w : World) (h : backfillref07_rungs.f  = some r) :
    Calls Tryd.prog 32 #[] w fun e w' => ∃ v0_ : Value, e = .returned (v0_) ∧ Kd.R (Kd.int .u64) 23 w' w.heap.size (fun _ => True) v0_ r ∧ Below w.heap.size w w' := by
  have HB := Aside0.mk (Below.refl w.heap.size w)
  have H : (some (([13043817825332782212, 15511800964685064948, 16915738899553466670, 17664662643191237676, 18051468387014017850, 18248035989933441396, 18347121020861646923, 18396865112328554660, 18421787711448657617, 18434261669329232139, 18440501815349552981, 18443622680442407997, 18445183311048607331, 18445963675871538003, 18446353870663572144, 18446548971154807801, 18446646522174239824, 18446695297877410578, 18446719685777359790, 18446731879739425373, 18446737976723480911, 18446741025216264367, 18446742549462845017, 18446743311586182573, 18446743692647863158, 18446743883178706403, 18446743978444128763, 18446744026076840128, 18446744049893195856, 18446744061801373732, 18446744067755462673, 18446744070732507144] : List Int))) = some r := h
  clear h
  obtain ⟨y112, hy112⟩ : ∃ y_ : List Int, y_ = (([13043817825332782212, 15511800964685064948, 16915738899553466670, 17664662643191237676, 18051468387014017850, 18248035989933441396, 18347121020861646923, 18396865112328554660, 18421787711448657617, 18434261669329232139, 18440501815349552981, 18443622680442407997, 18445183311048607331, 18445963675871538003, 18446353870663572144, 18446548971154807801, 18446646522174239824, 18446695297877410578, 18446719685777359790, 18446731879739425373, 18446737976723480911, 18446741025216264367, 18446742549462845017, 18446743311586182573, 18446743692647863158, 18446743883178706403, 18446743978444128763, 18446744026076840128, 18446744049893195856, 18446744061801373732, 18446744067755462673, 18446744070732507144] : List Int)) := ⟨_, rfl⟩
  replace H : (some y112) = some r := by first | (rw [hy112]; with_reducible exact H) | (have H2_ := (Option.bind_some _ _).symm.trans H; rw [hy112]; with_reducible exact H2_) | (have H2_ := (Option.bind_some _ _).symm.trans H; with_reducible exact H2_) | with_reducible exact H | (rw [hy112]; exact H) | exact H
  have Ny112 := Aside0.mk hy112
  clear hy112
  obtain rfl := Option.some.inj H
  go_enter Tryd.func32, Tryd.ntmps32
  go_wp2_with (first | ((with_reducible refine gate_dst (N := 1) rfl ?_); refine Kd.R_lit (Kd.int .u64) _ 23 ?hg (N := 1) ?hd (xs := ([13043817825332782212, 15511800964685064948, 16915738899553466670, 17664662643191237676, 18051468387014017850, 18248035989933441396, 18347121020861646923, 18396865112328554660, 18421787711448657617, 18434261669329232139, 18440501815349552981, 18443622680442407997, 18445183311048607331, 18445963675871538003, 18446353870663572144, 18446548971154807801, 18446646522174239824, 18446695297877410578, 18446719685777359790, 18446731879739425373, 18446737976723480911, 18446741025216264367, 18446742549462845017, 18446743311586182573, 18446743692647863158, 18446743883178706403, 18446743978444128763, 18446744026076840128, 18446744049893195856, 18446744061801373732, 18446744067755462673, 18446744070732507144] : List Int)) (inner := [.int .u64 13043817825332782212, .int .u64 15511800964685064948, .int .u64 16915738899553466670, .int .u64 17664662643191237676, .int .u64 18051468387014017850, .int .u64 18248035989933441396, .int .u64 18347121020861646923, .int .u64 18396865112328554660, .int .u64 18421787711448657617, .int .u64 18434261669329232139, .int .u64 18440501815349552981, .int .u64 18443622680442407997, .int .u64 18445183311048607331, .int .u64 18445963675871538003, .int .u64 18446353870663572144, .int .u64 18446548971154807801, .int .u64 18446646522174239824, .int .u64 18446695297877410578, .int .u64 18446719685777359790, .int .u64 18446731879739425373, .int .u64 18446737976723480911, .int .u64 18446741025216264367, .int .u64 18446742549462845017, .int .u64 18446743311586182573, .int .u64 18446743692647863158, .int .u64 18446743883178706403, .int .u64 18446743978444128763, .int .u64 18446744026076840128, .int .u64 18446744049893195856, .int .u64 18446744061801373732, .int .u64 18446744067755462673, .int .u64 18446744070732507144]) (ok := fun _ => True) (okp := fun _ => True) ?hr ?hp (fun _ hk => hk) trivial (Below.refl _ _) (Nat.le_refl _) (by simp) ?_; (case hd => rfl); (case hg => rfl); (case hr => first | (go_simp; done) | (go_simp; rfl)); (case hp => exact (Reps.one (show Kd.M (Kd.int .u64) _ _ _ 13043817825332782212 [.int .u64 13043817825332782212] from rfl) (Reps.one (show Kd.M (Kd.int .u64) _ _ _ 15511800964685064948 [.int .u64 15511800964685064948] from rfl) (Reps.one (show Kd.M (Kd.int .u64) _ _ _ 16915738899553466670 [.int .u64 16915738899553466670] from rfl) (Reps.one (show Kd.M (Kd.int .u64) _ _ _ 17664662643191237676 [.int .u64 17664662643191237676] from rfl) (Reps.one (show Kd.M (Kd.int .u64) _ _ _ 18051468387014017850 [.int .u64 18051468387014017850] from rfl) (Reps.one (show Kd.M (Kd.int .u64) _ _ _ 18248035989933441396 [.int .u64 18248035989933441396] from rfl) (Reps.one (show Kd.M (Kd.int .u64) _ _ _ 18347121020861646923 [.int .u64 18347121020861646923] from rfl) (Reps.one (show Kd.M (Kd.int .u64) _ _ _ 18396865112328554660 [.int .u64 18396865112328554660] from rfl) (Reps.one (show Kd.M (Kd.int .u64) _ _ _ 18421787711448657617 [.int .u64 18421787711448657617] from rfl) (Reps.one (show Kd.M (Kd.int .u64) _ _ _ 18434261669329232139 [.int .u64 18434261669329232139] from rfl) (Reps.one (show Kd.M (Kd.int .u64) _ _ _ 18440501815349552981 [.int .u64 18440501815349552981] from rfl) (Reps.one (show Kd.M (Kd.int .u64) _ _ _ 18443622680442407997 [.int .u64 18443622680442407997] from rfl) (Reps.one (show Kd.M (Kd.int .u64) _ _ _ 18445183311048607331 [.int .u64 18445183311048607331] from rfl) (Reps.one (show Kd.M (Kd.int .u64) _ _ _ 18445963675871538003 [.int .u64 18445963675871538003] from rfl) (Reps.one (show Kd.M (Kd.int .u64) _ _ _ 18446353870663572144 [.int .u64 18446353870663572144] from rfl) (Reps.one (show Kd.M (Kd.int .u64) _ _ _ 18446548971154807801 [.int .u64 18446548971154807801] from rfl) (Reps.one (show Kd.M (Kd.int .u64) _ _ _ 18446646522174239824 [.int .u64 18446646522174239824] from rfl) (Reps.one (show Kd.M (Kd.int .u64) _ _ _ 18446695297877410578 [.int .u64 18446695297877410578] from rfl) (Reps.one (show Kd.M (Kd.int .u64) _ _ _ 18446719685777359790 [.int .u64 18446719685777359790] from rfl) (Reps.one (show Kd.M (Kd.int .u64) _ _ _ 18446731879739425373 [.int .u64 18446731879739425373] from rfl) (Reps.one (show Kd.M (Kd.int .u64) _ _ _ 18446737976723480911 [.int .u64 18446737976723480911] from rfl) (Reps.one (show Kd.M (Kd.int .u64) _ _ _ 18446741025216264367 [.int .u64 18446741025216264367] from rfl) (Reps.one (show Kd.M (Kd.int .u64) _ _ _ 18446742549462845017 [.int .u64 18446742549462845017] from rfl) (Reps.one (show Kd.M (Kd.int .u64) _ _ _ 18446743311586182573 [.int .u64 18446743311586182573] from rfl) (Reps.one (show Kd.M (Kd.int .u64) _ _ _ 18446743692647863158 [.int .u64 18446743692647863158] from rfl) (Reps.one (show Kd.M (Kd.int .u64) _ _ _ 18446743883178706403 [.int .u64 18446743883178706403] from rfl) (Reps.one (show Kd.M (Kd.int .u64) _ _ _ 18446743978444128763 [.int .u64 18446743978444128763] from rfl) (Reps.one (show Kd.M (Kd.int .u64) _ _ _ 18446744026076840128 [.int .u64 18446744026076840128] from rfl) (Reps.one (show Kd.M (Kd.int .u64) _ _ _ 18446744049893195856 [.int .u64 18446744049893195856] from rfl) (Reps.one (show Kd.M (Kd.int .u64) _ _ _ 18446744061801373732 [.int .u64 18446744061801373732] from rfl) (Reps.one (show Kd.M (Kd.int .u64) _ _ _ 18446744067755462673 [.int .u64 18446744067755462673] from rfl) (Reps.one (show Kd.M (Kd.int .u64) _ _ _ 18446744070732507144 [.int .u64 18446744070732507144] from rfl) (Reps.none _ _)))))))))))))))))))))))))))))))))); intro v113 w1 ho2 hb hg_ hnew_; clear hg_ hnew_; (first | rw [← Ny112.out] at ho2 | (simp only [Int.reduceToNat] at ho2; rw [← Ny112.out] at ho2)); have n0_ := Aside0.mk (Kd.R_lower ho2 (below_size bA)); have n1_ := Aside0.mk (below_step bA hb); clear HB; have HO114 := n0_; have HB := n1_; clear n0_ n1_; clear hb ho2))
  go_ret
  exact ⟨_, by first | rfl | (simp [errW_none, errW_some] <;> rfl) | (simp [*, errW_none, errW_some] <;> rfl), by (with_reducible repeat (first | apply Kd.R_alloc | apply Kd.R_drewN | apply Kd.R_drew)); exact HO114.out, bA⟩

/-! ### backfillref07_Rung: function 14 -/
def backfillref07_Rung.f (a0 : Int) : Option (Int) := if a0 < 1 then (some 0) else (if a0 > 32 then (some 0) else ((backfillref07_rungs.f).bind fun t115 => (if 0 ≤ (wrap64 (a0 - 1)) then (if (wrap64 (a0 - 1)) < (t115.length : Int) then (some (rd t115 (wrap64 (a0 - 1)))) else (none)) else (none))))
set_option maxHeartbeats 8000000 in
set_option maxRecDepth 100000 in
theorem backfillref07_Rung.calls (a0 : Int) (r : Int) (w : World) (h : backfillref07_Rung.f a0 = some r) :
    Calls Tryd.prog 14 #[.int .i64 a0] w fun e w' => e = .returned (.int .u64 r) ∧ Below w.heap.size w w' := by
  have HB := Aside0.mk (Below.refl w.heap.size w)
  have H : (if a0 < 1 then (some 0) else (if a0 > 32 then (some 0) else ((backfillref07_rungs.f).bind fun t115 => (if 0 ≤ (wrap64 (a0 - 1)) then (if (wrap64 (a0 - 1)) < (t115.length : Int) then (some (rd t115 (wrap64 (a0 - 1)))) else (none)) else (none))))) = some r := h
  clear h
  by_cases c2 : a0 < 1
  · rw [if_pos c2] at H
    have c2b0 : decide (a0 < 1) = true := decide_eq_true c2
    clear c2
    obtain rfl := Option.some.inj H
    go_enter Tryd.func14, Tryd.ntmps14
    go_wp2
    go_ret
    exact ⟨by first | rfl | (simp [errW_none, errW_some] <;> rfl) | (simp [*, errW_none, errW_some] <;> rfl), bA⟩
  · rw [if_neg c2] at H
    have c2b0 : decide (a0 < 1) = false := decide_eq_false c2
    clear c2
    by_cases c3 : a0 > 32
    · rw [if_pos c3] at H
      have c3b0 : decide (32 < a0) = true := decide_eq_true c3
      clear c3
      obtain rfl := Option.some.inj H
      go_enter Tryd.func14, Tryd.ntmps14
      go_wp2
      go_ret
      exact ⟨by first | rfl | (simp [errW_none, errW_some] <;> rfl) | (simp [*, errW_none, errW_some] <;> rfl), bA⟩
    · rw [if_neg c3] at H
      have c3b0 : decide (32 < a0) = false := decide_eq_false c3
      clear c3
      replace H := Option.bind_eq_some_iff.mp H
      obtain ⟨t115, A40, H⟩ := H
      replace H : (if 0 ≤ (wrap64 (a0 - 1)) then (if (wrap64 (a0 - 1)) < (t115.length : Int) then (some (rd t115 (wrap64 (a0 - 1)))) else (none)) else (none)) = some r := H
      have A4 := Aside0.mk A40
      clear A40
      obtain ⟨ji5, hji5⟩ : ∃ j_ : Int, (wrap64 (a0 - 1)) = j_ := ⟨_, rfl⟩
      replace H : (if 0 ≤ (ji5) then (if (ji5) < (t115.length : Int) then (some (rd t115 (ji5))) else (none)) else (none)) = some r := by first | (rw [hji5] at H; exact H) | (simp only [hji5] at H ⊢; exact H)
      (try rw [hji5] at A4)
      have hji5w : (IntKind.i64.wrap (a0 - 1)) = ji5 := (i64_w _).trans hji5
      by_cases c6 : 0 ≤ (ji5)
      · rw [if_pos c6] at H
        have c6b0 : decide (0 ≤ (ji5)) = true := decide_eq_true c6
        clear c6
        by_cases c7 : (ji5) < (t115.length : Int)
        · rw [if_pos c7] at H
          have c7b0 : decide ((ji5) < (t115.length : Int)) = true := decide_eq_true c7
          clear c7
          obtain rfl := Option.some.inj H
          go_enter Tryd.func14, Tryd.ntmps14
          go_wp2_with (first | ((with_reducible refine gate_callee (f := 32) rfl ?_); refine goesL_ (some 9) rfl rfl Tryd.func32 (by kernel_rfl) rfl #[] rfl aA ?_; (with_reducible refine (backfillref07_rungs.calls  t115 _ A4.out).mono ?_); rintro e w8 ⟨v116, rfl, ho0, hb⟩; refine ⟨_, rfl, ?_⟩; have n0_ := Aside0.mk (Kd.R_lower ho0 (below_size bA)); have n1_ := Aside0.mk (below_step bA hb); clear HB; have HO117 := n0_; have HB := n1_; clear n0_ n1_; (try clear hb); (try clear hb2); (try clear hk); (try clear hi); (try clear ho0); obtain ⟨Ao9, co9, eo9⟩ := Kd.R_slice HO117.out; subst eo9; have p118 : 0 ≤ ((ji5) : Int) := of_decide_eq_true (by first | (with_reducible assumption) | assumption); have q118 : (ji5) < (t115.length : Int) := of_decide_eq_true (by first | (with_reducible assumption) | assumption); obtain ⟨ad118, e118, hx118_0⟩ := Kd.at_int (Kd.R_reads' HO117.out).2.2 (ji5) p118 q118; cases e118; replace p118 := eq_true p118; replace q118 := eq_true q118))
          go_ret
          exact ⟨by first | rfl | (simp [errW_none, errW_some] <;> rfl) | (simp only [← hji5]; first | rfl | (simp [errW_none, errW_some] <;> rfl)) | (simp [*, errW_none, errW_some] <;> rfl), bA⟩
        · rw [if_neg c7] at H
          exact absurd H (by simp)
      · rw [if_neg c6] at H
        exact absurd H (by simp)

/-! ### backfillref01_Cmp: function 15 -/
def backfillref01_Cmp.j0 : Nat → Bool → Int → Int → Int → Int → Option (Int)
  | 0, _, _, _, _, _ => none
  | k + 1, x23, x120000, x120001, x121000, x121001 => if x23 = true then (some (-1)) else (if (x120000 == x121000 && (x120001 == x121001)) = true then (some 0) else (some 1))
def backfillref01_Cmp.f (k : Nat) (a0_0 : Int) (a0_1 : Int) (a1_0 : Int) (a1_1 : Int) : Option (Int) := if a0_0 < a1_0 then (backfillref01_Cmp.j0 k true a0_0 a0_1 a1_0 a1_1) else (if a0_0 = a1_0 then (backfillref01_Cmp.j0 k (decide (a0_1 < a1_1)) a0_0 a0_1 a1_0 a1_1) else (backfillref01_Cmp.j0 k false a0_0 a0_1 a1_0 a1_1))
theorem backfillref01_Cmp.mono_l : ∀ k, (∀ y0 y1 y2 y3 y4, LeO (backfillref01_Cmp.j0 k y0 y1 y2 y3 y4) (backfillref01_Cmp.j0 (k + 1) y0 y1 y2 y3 y4))
  | 0 => fun _ _ _ _ _ r h => by simp [backfillref01_Cmp.j0] at h
  | k + 1 => by
    have ih0 := backfillref01_Cmp.mono_l k
    · intro y0 y1 y2 y3 y4
      unfold backfillref01_Cmp.j0
      repeat' first
      | (with_reducible exact ih0 _ _ _ _ _)
      | (with_reducible exact LeO.refl _)
      | (with_reducible exact LeO.none _)
      | (with_reducible refine LeO.ite ?_ ?_)
      | (with_reducible refine LeO.bind ?_ (fun _ => ?_))
      | exact ih0 _ _ _ _ _
      | exact LeO.none _
      | refine LeO.ite ?_ ?_
      | refine LeO.bind ?_ (fun _ => ?_)
theorem backfillref01_Cmp.mono : ∀ a0 a1 a2 a3 k, LeO (backfillref01_Cmp.f k a0 a1 a2 a3) (backfillref01_Cmp.f (k + 1) a0 a1 a2 a3) := by
  intro a0 a1 a2 a3 k
  have ih0 := backfillref01_Cmp.mono_l k
  unfold backfillref01_Cmp.f
  repeat' first
      | (with_reducible exact ih0 _ _ _ _ _)
      | (with_reducible exact LeO.refl _)
      | (with_reducible exact LeO.none _)
      | (with_reducible refine LeO.ite ?_ ?_)
      | (with_reducible refine LeO.bind ?_ (fun _ => ?_))
      | exact ih0 _ _ _ _ _
      | exact LeO.none _
      | refine LeO.ite ?_ ?_
      | refine LeO.bind ?_ (fun _ => ?_)
set_option maxHeartbeats 8000000 in
set_option maxRecDepth 100000 in
theorem backfillref01_Cmp.calls (k : Nat) (a0_0 : Int) (a0_1 : Int) (a1_0 : Int) (a1_1 : Int) (r : Int) (w : World) (h : backfillref01_Cmp.f k a0_0 a0_1 a1_0 a1_1 = some r) :
    Calls Tryd.prog 15 #[.agg #[.int .u64 a0_0, .int .u64 a0_1], .agg #[.int .u64 a1_0, .int .u64 a1_1]] w fun e w' => e = .returned (.int .i64 r) ∧ Below w.heap.size w w' := by
  have hu26 := Tryd.underlying26
  have HB := Aside0.mk (Below.refl w.heap.size w)
  have H : (if a0_0 < a1_0 then (backfillref01_Cmp.j0 k true a0_0 a0_1 a1_0 a1_1) else (if a0_0 = a1_0 then (backfillref01_Cmp.j0 k (decide (a0_1 < a1_1)) a0_0 a0_1 a1_0 a1_1) else (backfillref01_Cmp.j0 k false a0_0 a0_1 a1_0 a1_1))) = some r := h
  clear h
  have HC3 := Aside0.mk H
  clear H
  go_enter Tryd.func15, Tryd.ntmps15
  go_upto_region 1 with (first | ((with_reducible refine gate_dst (N := 2) rfl ?_); refine box_event ?hg (N := 2) ?hd (cs := #[.int .u64 a0_0, .int .u64 a0_1]) (t := 26) ?hr ?_; (case hd => rfl); (case hg => rfl); (case hr => first | (go_simp; done) | (go_simp; rfl)); intro gb119 hg w4 hbox hb; have n0_ := Aside0.mk (below_step bA hb); have n1_ := Aside0.mk (hbox); have n2_ := Aside0.mk ((by rw [hg]; exact (below_size bA) : w.heap.size ≤ gb119)); have n3_ := Aside0.mk ((by rw [hg]; exact (below_size bA) : w.heap.size ≤ gb119)); clear HB; have HB := n0_; have BK119 := n1_; have GW119 := n2_; have GE119 := n3_; clear n0_ n1_ n2_ n3_; clear hb hbox hg) | ((with_reducible refine gate_dst (N := 3) rfl ?_); refine box_event ?hg (N := 3) ?hd (cs := #[.int .u64 a1_0, .int .u64 a1_1]) (t := 26) ?hr ?_; (case hd => rfl); (case hg => rfl); (case hr => first | (go_simp; done) | (go_simp; rfl)); intro gb120 hg w5 hbox hb; have n0_ := Aside0.mk (blk_below (g := gb119) (o := .cells #[.int .u64 a0_0, .int .u64 a0_1] 26 (0, 0)) (by (with_reducible repeat (first | refine blk_drewN ?_ _ | refine blk_drew ?_ | refine blk_alloc ?_ _)); exact BK119.out) hb); have n1_ := Aside0.mk (below_step (by repeat (first | (with_reducible first | exact HB.out | apply below_alloc | apply pw_below_drewN | apply below_drew1 | refine below_set ?_ GE119.out) | exact HB.out)) hb); have n2_ := Aside0.mk (hbox); have n3_ := Aside0.mk ((by rw [hg]; exact (below_size (by repeat (first | (with_reducible first | exact HB.out | apply below_alloc | apply pw_below_drewN | apply below_drew1 | refine below_set ?_ GE119.out) | exact HB.out))) : w.heap.size ≤ gb120)); have n4_ := Aside0.mk ((by rw [hg]; exact (below_size (by repeat (first | (with_reducible first | exact HB.out | apply below_alloc | apply pw_below_drewN | apply below_drew1 | refine below_set ?_ GE119.out) | exact HB.out))) : w.heap.size ≤ gb120)); have n5_ := Aside0.mk ((by rw [hg]; exact Nat.ne_of_lt (blk_lt (g := gb119) (o := .cells #[.int .u64 a0_0, .int .u64 a0_1] 26 (0, 0)) (by (with_reducible repeat (first | refine blk_drewN ?_ _ | refine blk_drew ?_ | refine blk_alloc ?_ _)); exact BK119.out)) : gb119 ≠ gb120)); have n6_ := Aside0.mk ((by rw [hg]; exact Nat.ne_of_gt (blk_lt (g := gb119) (o := .cells #[.int .u64 a0_0, .int .u64 a0_1] 26 (0, 0)) (by (with_reducible repeat (first | refine blk_drewN ?_ _ | refine blk_drew ?_ | refine blk_alloc ?_ _)); exact BK119.out)) : gb120 ≠ gb119)); clear BK119; clear HB; have BK119 := n0_; have HB := n1_; have BK120 := n2_; have GW120 := n3_; have GE120 := n4_; have NB119_120 := n5_; have NB120_119 := n6_; clear n0_ n1_ n2_ n3_ n4_ n5_ n6_; clear hb hbox hg))
  (try simp only [Act.put, List.setIfInBounds_toArray, List.set_cons_zero, List.set_cons_succ])
  go_cut [23] (fun v23 wc => ∃ (kq : Nat) (x23_2 : Bool), v23 = .bool x23_2 ∧ Aside0 (backfillref01_Cmp.j0 kq x23_2 a0_0 a0_1 a1_0 a1_1 = some r) ∧ Aside0 (kq ≤ k) ∧ Aside0 (wc.heap[gb119]? = some (.cells #[.int .u64 a0_0, .int .u64 a0_1] 26 (0, 0))) ∧ Aside0 (wc.heap[gb120]? = some (.cells #[.int .u64 a1_0, .int .u64 a1_1] 26 (0, 0))) ∧ Aside0 (Below w.heap.size w wc))
  case first =>
    have H := HC3.out
    clear HC3
    by_cases c6 : a0_0 < a1_0
    · rw [if_pos c6] at H
      have c6b0 : decide (a0_0 < a1_0) = true := decide_eq_true c6
      clear c6
      (first | rw [c6b0] | (simp only [i64_w, i32_w]; rw [c6b0]) | skip)
      have H' := Aside0.mk H
      clear H
      have hnb7 := NB119_120.out
      have hnc7 := NB120_119.out
      have hcz8_0 : w5.cell? ⟨gb119, 0, none⟩ = some (.int .u64 a0_0) := (blk_cell BK119.out 0).trans rfl
      have hcz8_1 : w5.cell? ⟨gb119, 1, none⟩ = some (.int .u64 a0_1) := (blk_cell BK119.out 1).trans rfl
      have hfz8_0 := blk_frozen BK119.out 0
      have hfz8_1 := blk_frozen BK119.out 1
      have hcz9_0 : w5.cell? ⟨gb120, 0, none⟩ = some (.int .u64 a1_0) := (blk_cell BK120.out 0).trans rfl
      have hcz9_1 : w5.cell? ⟨gb120, 1, none⟩ = some (.int .u64 a1_1) := (blk_cell BK120.out 1).trans rfl
      have hfz9_0 := blk_frozen BK120.out 0
      have hfz9_1 := blk_frozen BK120.out 1
      go_wp2
      go_meet
      case rel => exact ⟨_, (true), (by first | rfl | (simp; done) | (simp [*]; done)), H', ⟨by first | omega | exact Nat.le_refl _⟩, ⟨by (with_reducible repeat (first | refine blk_drewN ?_ _ | refine blk_drew ?_ | refine blk_alloc ?_ _)); exact BK119.out⟩, ⟨by (with_reducible repeat (first | refine blk_drewN ?_ _ | refine blk_drew ?_ | refine blk_alloc ?_ _)); exact BK120.out⟩, ⟨by repeat (first | (with_reducible first | exact HB.out | apply below_alloc | apply pw_below_drewN | apply below_drew1 | refine below_set ?_ GE119.out | refine below_set ?_ GE120.out) | exact HB.out)⟩⟩
    · rw [if_neg c6] at H
      have c6b0 : decide (a0_0 < a1_0) = false := decide_eq_false c6
      clear c6
      (first | rw [c6b0] | (simp only [i64_w, i32_w]; rw [c6b0]) | skip)
      by_cases c10 : a0_0 = a1_0
      · rw [if_pos c10] at H
        have c10b0 : (a0_0 == a1_0) = true := beq_iff_eq.mpr c10
        have c10b1 : (a0_0 != a1_0) = false := bne_eq_false_iff_eq.mpr c10
        clear c10
        have H' := Aside0.mk H
        clear H
        have hnb11 := NB119_120.out
        have hnc11 := NB120_119.out
        have hcz12_0 : w5.cell? ⟨gb119, 0, none⟩ = some (.int .u64 a0_0) := (blk_cell BK119.out 0).trans rfl
        have hcz12_1 : w5.cell? ⟨gb119, 1, none⟩ = some (.int .u64 a0_1) := (blk_cell BK119.out 1).trans rfl
        have hfz12_0 := blk_frozen BK119.out 0
        have hfz12_1 := blk_frozen BK119.out 1
        have hcz13_0 : w5.cell? ⟨gb120, 0, none⟩ = some (.int .u64 a1_0) := (blk_cell BK120.out 0).trans rfl
        have hcz13_1 : w5.cell? ⟨gb120, 1, none⟩ = some (.int .u64 a1_1) := (blk_cell BK120.out 1).trans rfl
        have hfz13_0 := blk_frozen BK120.out 0
        have hfz13_1 := blk_frozen BK120.out 1
        go_wp2
        go_meet
        case rel => exact ⟨_, (decide (a0_1 < a1_1)), (by first | rfl | (simp; done) | (simp [*]; done)), H', ⟨by first | omega | exact Nat.le_refl _⟩, ⟨by (with_reducible repeat (first | refine blk_drewN ?_ _ | refine blk_drew ?_ | refine blk_alloc ?_ _)); exact BK119.out⟩, ⟨by (with_reducible repeat (first | refine blk_drewN ?_ _ | refine blk_drew ?_ | refine blk_alloc ?_ _)); exact BK120.out⟩, ⟨by repeat (first | (with_reducible first | exact HB.out | apply below_alloc | apply pw_below_drewN | apply below_drew1 | refine below_set ?_ GE119.out | refine below_set ?_ GE120.out) | exact HB.out)⟩⟩
      · rw [if_neg c10] at H
        have c10b0 : (a0_0 == a1_0) = false := beq_eq_false_iff_ne.mpr c10
        have c10b1 : (a0_0 != a1_0) = true := bne_iff_ne.mpr c10
        have H' := Aside0.mk H
        clear H
        have hnb14 := NB119_120.out
        have hnc14 := NB120_119.out
        have hcz15_0 : w5.cell? ⟨gb119, 0, none⟩ = some (.int .u64 a0_0) := (blk_cell BK119.out 0).trans rfl
        have hcz15_1 : w5.cell? ⟨gb119, 1, none⟩ = some (.int .u64 a0_1) := (blk_cell BK119.out 1).trans rfl
        have hfz15_0 := blk_frozen BK119.out 0
        have hfz15_1 := blk_frozen BK119.out 1
        have hcz16_0 : w5.cell? ⟨gb120, 0, none⟩ = some (.int .u64 a1_0) := (blk_cell BK120.out 0).trans rfl
        have hcz16_1 : w5.cell? ⟨gb120, 1, none⟩ = some (.int .u64 a1_1) := (blk_cell BK120.out 1).trans rfl
        have hfz16_0 := blk_frozen BK120.out 0
        have hfz16_1 := blk_frozen BK120.out 1
        go_wp2
        go_meet
        case rel => exact ⟨_, (false), (by first | rfl | (simp; done) | (simp [*]; done)), H', ⟨by first | omega | exact Nat.le_refl _⟩, ⟨by (with_reducible repeat (first | refine blk_drewN ?_ _ | refine blk_drew ?_ | refine blk_alloc ?_ _)); exact BK119.out⟩, ⟨by (with_reducible repeat (first | refine blk_drewN ?_ _ | refine blk_drew ?_ | refine blk_alloc ?_ _)); exact BK120.out⟩, ⟨by repeat (first | (with_reducible first | exact HB.out | apply below_alloc | apply pw_below_drewN | apply below_drew1 | refine below_set ?_ GE119.out | refine below_set ?_ GE120.out) | exact HB.out)⟩⟩
  case rest =>
    clear HC3
    try clear c1
    try clear p2
    try clear c6
    try clear c6b0
    try clear c7
    try clear c10
    try clear c10b0
    try clear c10b1
    try clear c11
    try clear c14
    try clear c15
    try clear hcz12_0
    try clear hcz12_1
    try clear hcz13_0
    try clear hcz13_1
    try clear hcz15_0
    try clear hcz15_1
    try clear hcz16_0
    try clear hcz16_1
    try clear hcz8_0
    try clear hcz8_1
    try clear hcz9_0
    try clear hcz9_1
    try clear hfz12_0
    try clear hfz12_1
    try clear hfz13_0
    try clear hfz13_1
    try clear hfz15_0
    try clear hfz15_1
    try clear hfz16_0
    try clear hfz16_1
    try clear hfz8_0
    try clear hfz8_1
    try clear hfz9_0
    try clear hfz9_1
    obtain ⟨kq, x23_2, rfl, HA, HJ2, BK119, BK120, HB⟩ := hcut
    cases kq with
    | zero => exact absurd HA.out (by simp [backfillref01_Cmp.j0])
    | succ kj2 =>
      have H := HA.out
      clear HA
      simp only [backfillref01_Cmp.j0] at H
      by_cases c17 : x23_2 = true
      · subst c17
        have H1 : (some (-1)) = some r := by rw [if_pos rfl] at H; exact H
        clear H
        have H := H1
        clear H1
        obtain rfl := Option.some.inj H
        go_wp2
        go_ret
        exact ⟨by first | rfl | (simp [errW_none, errW_some] <;> rfl) | (simp [*, errW_none, errW_some] <;> rfl), by repeat (first | (with_reducible first | exact HB.out | apply below_alloc | apply pw_below_drewN | apply below_drew1 | refine below_set ?_ GE119.out | refine below_set ?_ GE120.out) | exact HB.out)⟩
      · replace c17 := Bool.eq_false_iff.mpr c17
        subst c17
        have H1 : (if (a0_0 == a1_0 && (a0_1 == a1_1)) = true then (some 0) else (some 1)) = some r := by rw [if_neg (show ¬ (false = true) by decide)] at H; exact H
        clear H
        have H := H1
        clear H1
        by_cases c18 : (a0_0 == a1_0 && (a0_1 == a1_1)) = true
        · rw [if_pos c18] at H
          have c18b0 : (a0_0 == a1_0 && (a0_1 == a1_1)) = true := c18
          (try (have c18b1 : decide (a0_0 = a1_0 && (a0_1 == a1_1)) = true := by simpa using c18))
          (try (have c18b2 : (a0_0 == a1_0 && (a0_1 == a1_1)) = true := by simpa using c18))
          clear c18
          obtain rfl := Option.some.inj H
          have hnb19 := NB119_120.out
          have hnc19 := NB120_119.out
          have hcz20_0 : wc.cell? ⟨gb119, 0, none⟩ = some (.int .u64 a0_0) := (blk_cell BK119.out 0).trans rfl
          have hcz20_1 : wc.cell? ⟨gb119, 1, none⟩ = some (.int .u64 a0_1) := (blk_cell BK119.out 1).trans rfl
          have hfz20_0 := blk_frozen BK119.out 0
          have hfz20_1 := blk_frozen BK119.out 1
          have hcz21_0 : wc.cell? ⟨gb120, 0, none⟩ = some (.int .u64 a1_0) := (blk_cell BK120.out 0).trans rfl
          have hcz21_1 : wc.cell? ⟨gb120, 1, none⟩ = some (.int .u64 a1_1) := (blk_cell BK120.out 1).trans rfl
          have hfz21_0 := blk_frozen BK120.out 0
          have hfz21_1 := blk_frozen BK120.out 1
          go_wp2
          go_ret
          exact ⟨by first | rfl | (simp [errW_none, errW_some] <;> rfl) | (simp [*, errW_none, errW_some] <;> rfl), by repeat (first | (with_reducible first | exact HB.out | apply below_alloc | apply pw_below_drewN | apply below_drew1 | refine below_set ?_ GE119.out | refine below_set ?_ GE120.out) | exact HB.out)⟩
        · rw [if_neg c18] at H
          have c18b0 : (a0_0 == a1_0 && (a0_1 == a1_1)) = false := by simpa using c18
          (try (have c18b1 : decide (a0_0 = a1_0 && (a0_1 == a1_1)) = false := by simpa using c18))
          (try (have c18b2 : (a0_0 == a1_0 && (a0_1 == a1_1)) = false := by simpa using c18))
          (try (have c18b3 : ¬ (a0_0 = a1_0 && (a0_1 == a1_1)) := by simpa using c18))
          clear c18
          obtain rfl := Option.some.inj H
          have hnb22 := NB119_120.out
          have hnc22 := NB120_119.out
          have hcz23_0 : wc.cell? ⟨gb119, 0, none⟩ = some (.int .u64 a0_0) := (blk_cell BK119.out 0).trans rfl
          have hcz23_1 : wc.cell? ⟨gb119, 1, none⟩ = some (.int .u64 a0_1) := (blk_cell BK119.out 1).trans rfl
          have hfz23_0 := blk_frozen BK119.out 0
          have hfz23_1 := blk_frozen BK119.out 1
          have hcz24_0 : wc.cell? ⟨gb120, 0, none⟩ = some (.int .u64 a1_0) := (blk_cell BK120.out 0).trans rfl
          have hcz24_1 : wc.cell? ⟨gb120, 1, none⟩ = some (.int .u64 a1_1) := (blk_cell BK120.out 1).trans rfl
          have hfz24_0 := blk_frozen BK120.out 0
          have hfz24_1 := blk_frozen BK120.out 1
          go_wp2
          go_ret
          exact ⟨by first | rfl | (simp [errW_none, errW_some] <;> rfl) | (simp [*, errW_none, errW_some] <;> rfl), by repeat (first | (with_reducible first | exact HB.out | apply below_alloc | apply pw_below_drewN | apply below_drew1 | refine below_set ?_ GE119.out | refine below_set ?_ GE120.out) | exact HB.out)⟩

/-! ### backfillref01_Mul: function 16 -/
def backfillref01_Mul.f (a0 : Int) (a1 : Int) : Option (Int × Int) := some (IntKind.u64.wrap ((IntKind.u64.wrap ((IntKind.u64.wrap ((IntKind.u64.wrap ((a0 / 4294967296) * (a1 / 4294967296))) + ((IntKind.u64.wrap ((a0 / 4294967296) * (Go.bits .and .u64 a1 4294967295))) / 4294967296))) + ((IntKind.u64.wrap ((Go.bits .and .u64 a0 4294967295) * (a1 / 4294967296))) / 4294967296))) + ((IntKind.u64.wrap ((IntKind.u64.wrap (((IntKind.u64.wrap ((Go.bits .and .u64 a0 4294967295) * (Go.bits .and .u64 a1 4294967295))) / 4294967296) + (Go.bits .and .u64 (IntKind.u64.wrap ((a0 / 4294967296) * (Go.bits .and .u64 a1 4294967295))) 4294967295))) + (Go.bits .and .u64 (IntKind.u64.wrap ((Go.bits .and .u64 a0 4294967295) * (a1 / 4294967296))) 4294967295))) / 4294967296)), IntKind.u64.wrap ((IntKind.u64.wrap ((IntKind.u64.wrap ((IntKind.u64.wrap (((IntKind.u64.wrap ((Go.bits .and .u64 a0 4294967295) * (Go.bits .and .u64 a1 4294967295))) / 4294967296) + (Go.bits .and .u64 (IntKind.u64.wrap ((a0 / 4294967296) * (Go.bits .and .u64 a1 4294967295))) 4294967295))) + (Go.bits .and .u64 (IntKind.u64.wrap ((Go.bits .and .u64 a0 4294967295) * (a1 / 4294967296))) 4294967295))) * 4294967296)) + (Go.bits .and .u64 (IntKind.u64.wrap ((Go.bits .and .u64 a0 4294967295) * (Go.bits .and .u64 a1 4294967295))) 4294967295)))
set_option maxHeartbeats 8000000 in
set_option maxRecDepth 100000 in
theorem backfillref01_Mul.calls (a0 : Int) (a1 : Int) (r1 : Int) (r2 : Int) (w : World) (h : backfillref01_Mul.f a0 a1 = some (r1, r2)) :
    Calls Tryd.prog 16 #[.int .u64 a0, .int .u64 a1] w fun e w' => e = .returned (.agg #[.int .u64 r1, .int .u64 r2]) ∧ Below w.heap.size w w' := by
  have hu26 := Tryd.underlying26
  have HB := Aside0.mk (Below.refl w.heap.size w)
  have H : (some (IntKind.u64.wrap ((IntKind.u64.wrap ((IntKind.u64.wrap ((IntKind.u64.wrap ((a0 / 4294967296) * (a1 / 4294967296))) + ((IntKind.u64.wrap ((a0 / 4294967296) * (Go.bits .and .u64 a1 4294967295))) / 4294967296))) + ((IntKind.u64.wrap ((Go.bits .and .u64 a0 4294967295) * (a1 / 4294967296))) / 4294967296))) + ((IntKind.u64.wrap ((IntKind.u64.wrap (((IntKind.u64.wrap ((Go.bits .and .u64 a0 4294967295) * (Go.bits .and .u64 a1 4294967295))) / 4294967296) + (Go.bits .and .u64 (IntKind.u64.wrap ((a0 / 4294967296) * (Go.bits .and .u64 a1 4294967295))) 4294967295))) + (Go.bits .and .u64 (IntKind.u64.wrap ((Go.bits .and .u64 a0 4294967295) * (a1 / 4294967296))) 4294967295))) / 4294967296)), IntKind.u64.wrap ((IntKind.u64.wrap ((IntKind.u64.wrap ((IntKind.u64.wrap (((IntKind.u64.wrap ((Go.bits .and .u64 a0 4294967295) * (Go.bits .and .u64 a1 4294967295))) / 4294967296) + (Go.bits .and .u64 (IntKind.u64.wrap ((a0 / 4294967296) * (Go.bits .and .u64 a1 4294967295))) 4294967295))) + (Go.bits .and .u64 (IntKind.u64.wrap ((Go.bits .and .u64 a0 4294967295) * (a1 / 4294967296))) 4294967295))) * 4294967296)) + (Go.bits .and .u64 (IntKind.u64.wrap ((Go.bits .and .u64 a0 4294967295) * (Go.bits .and .u64 a1 4294967295))) 4294967295)))) = some (r1, r2) := h
  clear h
  simp only [Option.some.injEq, Prod.mk.injEq] at H
  obtain ⟨rfl, rfl⟩ := H
  go_enter Tryd.func16, Tryd.ntmps16
  go_wp2_with (first | ((with_reducible refine gate_dst (N := 4) rfl ?_); refine box_event ?hg (N := 4) ?hd (cs := #[.int .u64 0, .int .u64 0]) (t := 26) ?hr ?_; (case hd => rfl); (case hg => rfl); (case hr => first | (go_simp; done) | (go_simp; rfl)); intro gb121 hg w3 hbox hb; have n0_ := Aside0.mk (below_step bA hb); have n1_ := Aside0.mk (hbox); have n2_ := Aside0.mk ((by rw [hg]; exact (below_size bA) : w.heap.size ≤ gb121)); have n3_ := Aside0.mk ((by rw [hg]; exact (below_size bA) : w.heap.size ≤ gb121)); clear HB; have HB := n0_; have BK121 := n1_; have GW121 := n2_; have GE121 := n3_; clear n0_ n1_ n2_ n3_; clear hb hbox hg; have hcz4_0 : w3.cell? ⟨gb121, 0, none⟩ = some (.int .u64 0) := (blk_cell BK121.out 0).trans rfl; have hcz4_1 : w3.cell? ⟨gb121, 1, none⟩ = some (.int .u64 0) := (blk_cell BK121.out 1).trans rfl; have hfz4_0 := blk_frozen BK121.out 0; have hfz4_1 := blk_frozen BK121.out 1))
  refine bodyPost_ret (results_cell_row rfl _ _ gb121 26 #[.int .u64 (IntKind.u64.wrap ((IntKind.u64.wrap ((IntKind.u64.wrap ((IntKind.u64.wrap ((a0 / 4294967296) * (a1 / 4294967296))) + ((IntKind.u64.wrap ((a0 / 4294967296) * (Go.bits .and .u64 a1 4294967295))) / 4294967296))) + ((IntKind.u64.wrap ((Go.bits .and .u64 a0 4294967295) * (a1 / 4294967296))) / 4294967296))) + ((IntKind.u64.wrap ((IntKind.u64.wrap (((IntKind.u64.wrap ((Go.bits .and .u64 a0 4294967295) * (Go.bits .and .u64 a1 4294967295))) / 4294967296) + (Go.bits .and .u64 (IntKind.u64.wrap ((a0 / 4294967296) * (Go.bits .and .u64 a1 4294967295))) 4294967295))) + (Go.bits .and .u64 (IntKind.u64.wrap ((Go.bits .and .u64 a0 4294967295) * (a1 / 4294967296))) 4294967295))) / 4294967296))), .int .u64 (IntKind.u64.wrap ((IntKind.u64.wrap ((IntKind.u64.wrap ((IntKind.u64.wrap (((IntKind.u64.wrap ((Go.bits .and .u64 a0 4294967295) * (Go.bits .and .u64 a1 4294967295))) / 4294967296) + (Go.bits .and .u64 (IntKind.u64.wrap ((a0 / 4294967296) * (Go.bits .and .u64 a1 4294967295))) 4294967295))) + (Go.bits .and .u64 (IntKind.u64.wrap ((Go.bits .and .u64 a0 4294967295) * (a1 / 4294967296))) 4294967295))) * 4294967296)) + (Go.bits .and .u64 (IntKind.u64.wrap ((Go.bits .and .u64 a0 4294967295) * (Go.bits .and .u64 a1 4294967295))) 4294967295)))] (0, 0) _ rfl (by (with_reducible repeat (first | refine blk_drewN ?_ _ | refine blk_drew ?_ | refine blk_alloc ?_ _)); refine blk_put (cs := #[.int .u64 (IntKind.u64.wrap ((IntKind.u64.wrap ((IntKind.u64.wrap ((IntKind.u64.wrap ((a0 / 4294967296) * (a1 / 4294967296))) + ((IntKind.u64.wrap ((a0 / 4294967296) * (Go.bits .and .u64 a1 4294967295))) / 4294967296))) + ((IntKind.u64.wrap ((Go.bits .and .u64 a0 4294967295) * (a1 / 4294967296))) / 4294967296))) + ((IntKind.u64.wrap ((IntKind.u64.wrap (((IntKind.u64.wrap ((Go.bits .and .u64 a0 4294967295) * (Go.bits .and .u64 a1 4294967295))) / 4294967296) + (Go.bits .and .u64 (IntKind.u64.wrap ((a0 / 4294967296) * (Go.bits .and .u64 a1 4294967295))) 4294967295))) + (Go.bits .and .u64 (IntKind.u64.wrap ((Go.bits .and .u64 a0 4294967295) * (a1 / 4294967296))) 4294967295))) / 4294967296))), .int .u64 0]) ?_ 1 _ rfl; (with_reducible repeat (first | refine blk_drewN ?_ _ | refine blk_drew ?_ | refine blk_alloc ?_ _)); refine blk_put (cs := #[.int .u64 0, .int .u64 0]) ?_ 0 _ rfl; (with_reducible repeat (first | refine blk_drewN ?_ _ | refine blk_drew ?_ | refine blk_alloc ?_ _)); exact BK121.out) Tryd.underlying26 rfl (by kernel_rfl)) rfl ?_
  exact ⟨by first | rfl | (simp [errW_none, errW_some] <;> rfl) | (simp [*, errW_none, errW_some] <;> rfl), by repeat (first | (with_reducible first | exact HB.out | apply below_alloc | apply pw_below_drewN | apply below_drew1 | refine below_set ?_ GE121.out) | exact HB.out)⟩

end Go.Proofs.YtmgmggkebmgafaaDoor.GL
