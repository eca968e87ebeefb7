-- Laid by a program of this session (wip/tools/pr.py): contracts and pure functions; Lean checks it.
import Derived.Test.YtgjjfnjnjnbfgaaDoorGLGx0
namespace Go.Proofs.YtgjjfnjnjnbfgaaDoor.GLG
open Go.RowKit Go.Proofs.YtgjjfnjnjnbfgaaDoorW.PrintWords Go.Proofs.YtgjjfnjnjnbfgaaDoorW.PrintLast Go.Proofs.YtgjjfnjnjnbfgaaDoorW.PrintMore
attribute [local go_sem] max2_int min2_int max_two min_two max_three min_three max_four min_four   -- for this text's walks alone
set_option linter.unusedVariables false
set_option linter.unusedSimpArgs false

/-! ### slices_Index_int_int: function 72 -/
def slices_Index_int_int.l0 : Nat → List Int → Int → Int → Int → Option (Int)
 | 0, _, _, _, _ => none
 | k + 1, x0, x1, x7, x8 => if x8 < x7 then (if 0 ≤ x8 then (if x8 < (x0.length : Int) then (if x1 = (rd x0 x8) then (some x8) else (slices_Index_int_int.l0 k x0 x1 x7 (wrap64 (x8 + 1)))) else (none)) else (none)) else (some (-1))
def slices_Index_int_int.f (k : Nat) (l0 : List Int) (a1 : Int) : Option (Int) := slices_Index_int_int.l0 k l0 a1 (l0.length : Int) 0
theorem slices_Index_int_int.mono_l : ∀ k, (∀ y0 y1 y2 y3, LeO (slices_Index_int_int.l0 k y0 y1 y2 y3) (slices_Index_int_int.l0 (k + 1) y0 y1 y2 y3))
 | 0 => fun _ _ _ _ r h => by simp [slices_Index_int_int.l0] at h
 | k + 1 => by
  have ih0 := slices_Index_int_int.mono_l k
  ·intro y0 y1 y2 y3
   unfold slices_Index_int_int.l0
   repeat' first
   | (with_reducible exact ih0 _ _ _ _)
   | (with_reducible exact LeO.refl _)
   | (with_reducible exact LeO.none _)
   | (with_reducible refine LeO.ite ?_ ?_)
   | (with_reducible refine LeO.bind ?_ (fun _ => ?_))
   | exact ih0 _ _ _ _
   | exact LeO.none _
   | refine LeO.ite ?_ ?_
   | refine LeO.bind ?_ (fun _ => ?_)
theorem slices_Index_int_int.mono : ∀ a0 a1 k, LeO (slices_Index_int_int.f k a0 a1) (slices_Index_int_int.f (k + 1) a0 a1) := by
 intro a0 a1 k
 have ih0 := slices_Index_int_int.mono_l k
 unfold slices_Index_int_int.f
 repeat' first
   | (with_reducible exact ih0 _ _ _ _)
   | (with_reducible exact LeO.refl _)
   | (with_reducible exact LeO.none _)
   | (with_reducible refine LeO.ite ?_ ?_)
   | (with_reducible refine LeO.bind ?_ (fun _ => ?_))
   | exact ih0 _ _ _ _
   | exact LeO.none _
   | refine LeO.ite ?_ ?_
   | refine LeO.bind ?_ (fun _ => ?_)
set_option maxHeartbeats 8000000 in
set_option maxRecDepth 100000 in
theorem slices_Index_int_int.calls (k : Nat) (A0 : Option Addr) (c0 : Nat) (l0 : List Int) (a1 : Int) (r : Int) (w : World) (hr0 : Kd.C (Kd.int .i64) w A0 l0.length l0) (hc0 : l0.length ≤ c0) (h : slices_Index_int_int.f k l0 a1 = some r) :
  Calls Tryd.prog 72 #[.slice A0 l0.length c0, .int .i64 a1] w fun e w' => e = .returned (.int .i64 r) ∧ Drawn0 w w' := by
 have HR0 := Aside0.mk hr0
 have HC0 := Aside0.mk hc0
 clear hr0 hc0
 have H : (slices_Index_int_int.l0 k l0 a1 (l0.length : Int) 0) = some r := h
 clear h
 have H' := Aside0.mk H
 clear H
 go_enter Tryd.func72, Tryd.ntmps72
 go_wp2
 go_loopg [8] k (fun kq v8 w' => ∃ (x8_1 : Int), v8 = .int .i64 x8_1 ∧ Aside0 (slices_Index_int_int.l0 kq l0 a1 (l0.length : Int) x8_1 = some r) ∧ Aside0 (kq ≤ k) ∧ Drawn0 w w')
 case atStart => exact ⟨(0), (by first | rfl | (simp; done) | (simp [*]; done)), H', ⟨Nat.le_refl _⟩, by repeat (first | exact Drawn0.refl _ | apply Drawn0.step)⟩
 case round =>
  clear H'
  try clear p2
  obtain ⟨x8_1, rfl, HA, HK1, ⟨m1, rfl⟩⟩ := hrel
  cases gk with
  | zero => exact absurd HA.out (by simp [slices_Index_int_int.l0])
  | succ k1 =>
   have H := HA.out
   clear HA
   simp only [slices_Index_int_int.l0] at H
   by_cases c3 : x8_1 < (l0.length : Int)
   ·rw [if_pos c3] at H
    have c3b0 : decide (x8_1 < (l0.length : Int)) = true := decide_eq_true c3
    clear c3
    by_cases c4 : 0 ≤ x8_1
    ·rw [if_pos c4] at H
     have c4b0 : decide (0 ≤ x8_1) = true := decide_eq_true c4
     clear c4
     by_cases c5 : x8_1 < (l0.length : Int)
     ·rw [if_pos c5] at H
      have c5b0 : decide (x8_1 < (l0.length : Int)) = true := decide_eq_true c5
      clear c5
      by_cases c6 : a1 = (rd l0 x8_1)
      ·rw [if_pos c6] at H
       have c6b0 : (a1 == (rd l0 x8_1)) = true := beq_iff_eq.mpr c6
       have c6b1 : (a1 != (rd l0 x8_1)) = false := bne_eq_false_iff_eq.mpr c6
       clear c6
       obtain rfl := Option.some.inj H
       have p248 : 0 ≤ (x8_1 : Int) := of_decide_eq_true (by first | (with_reducible assumption) | assumption)
       have q248 : x8_1 < (l0.length : Int) := of_decide_eq_true (by first | (with_reducible assumption) | assumption)
       obtain ⟨ad248, e248, hx248_0⟩ := Kd.at_int HR0.out x8_1 p248 q248
       cases e248
       replace p248 := eq_true p248
       replace q248 := eq_true q248
       go_wp2
       go_ret
       exact ⟨by first | rfl | (simp; done) | (simp [*]; done), by repeat (first | exact Drawn0.refl _ | apply Drawn0.step)⟩
      ·rw [if_neg c6] at H
       have c6b0 : (a1 == (rd l0 x8_1)) = false := beq_eq_false_iff_ne.mpr c6
       have c6b1 : (a1 != (rd l0 x8_1)) = true := bne_iff_ne.mpr c6
       have H' := Aside0.mk H
       clear H
       have p248 : 0 ≤ (x8_1 : Int) := of_decide_eq_true (by first | (with_reducible assumption) | assumption)
       have q248 : x8_1 < (l0.length : Int) := of_decide_eq_true (by first | (with_reducible assumption) | assumption)
       obtain ⟨ad248, e248, hx248_0⟩ := Kd.at_int HR0.out x8_1 p248 q248
       cases e248
       replace p248 := eq_true p248
       replace q248 := eq_true q248
       go_wp2
       go_roundg k1
       case measure => have := HK1.out; omega
       case rel => exact ⟨(wrap64 (x8_1 + 1)), (by first | rfl | (simp; done) | (simp [*]; done)), H', ⟨by have := HK1.out; omega⟩, by repeat (first | exact Drawn0.refl _ | apply Drawn0.step)⟩
     ·rw [if_neg c5] at H
      exact absurd H (by simp)
    ·rw [if_neg c4] at H
     exact absurd H (by simp)
   ·rw [if_neg c3] at H
    have c3b0 : decide (x8_1 < (l0.length : Int)) = false := decide_eq_false c3
    clear c3
    obtain rfl := Option.some.inj H
    go_wp2
    go_ret
    exact ⟨by first | rfl | (simp; done) | (simp [*]; done), by repeat (first | exact Drawn0.refl _ | apply Drawn0.step)⟩

/-! ### slices_Contains_int_int: function 50 -/
def slices_Contains_int_int.f (k : Nat) (l0 : List Int) (a1 : Int) : Option (Bool) := (slices_Index_int_int.f k l0 a1).bind fun t249 => (some (decide (t249 ≥ 0)))
theorem slices_Contains_int_int.mono : ∀ a0 a1 k, LeO (slices_Contains_int_int.f k a0 a1) (slices_Contains_int_int.f (k + 1) a0 a1) := by
 intro a0 a1 k
 unfold slices_Contains_int_int.f
 repeat' first
   | (with_reducible exact slices_Index_int_int.mono _ _ _)
   | (with_reducible exact LeO.refl _)
   | (with_reducible exact LeO.none _)
   | (with_reducible refine LeO.ite ?_ ?_)
   | (with_reducible refine LeO.bind ?_ (fun _ => ?_))
   | exact slices_Index_int_int.mono _ _ _
   | exact LeO.none _
   | refine LeO.ite ?_ ?_
   | refine LeO.bind ?_ (fun _ => ?_)
set_option maxHeartbeats 8000000 in
set_option maxRecDepth 100000 in
theorem slices_Contains_int_int.calls (k : Nat) (A0 : Option Addr) (c0 : Nat) (l0 : List Int) (a1 : Int) (r : Bool) (w : World) (hr0 : Kd.C (Kd.int .i64) w A0 l0.length l0) (hc0 : l0.length ≤ c0) (h : slices_Contains_int_int.f k l0 a1 = some r) :
  Calls Tryd.prog 50 #[.slice A0 l0.length c0, .int .i64 a1] w fun e w' => e = .returned (.bool r) ∧ Drawn0 w w' := by
 have HR0 := Aside0.mk hr0
 have HC0 := Aside0.mk hc0
 clear hr0 hc0
 have H : ((slices_Index_int_int.f k l0 a1).bind fun t249 => (some (decide (t249 ≥ 0)))) = some r := h
 clear h; replace H := Option.bind_eq_some_iff.mp H; obtain ⟨t249, A30, H⟩ := H; replace H : (some (decide (t249 ≥ 0))) = some r := H; have A3 := Aside0.mk A30; clear A30
 obtain rfl := Option.some.inj H
 go_enter Tryd.func50, Tryd.ntmps50
 go_wp2_with (first | ((with_reducible refine gate_callee (f := 72) rfl ?_); refine goesL_ (some 7) rfl rfl Tryd.func72 (by kernel_rfl) rfl #[.slice A0 l0.length c0, .int .i64 a1] rfl aA ?_; (with_reducible refine (slices_Index_int_int.calls k _ _ l0 a1 t249 _ ?side1 ?side2 A3.out).mono ?_); (case side1 => repeat (first | exact HR0.out | (with_reducible refine Kd.C_alloc ?_ _) | (with_reducible refine Kd.C_drewN ?_ _) | (with_reducible refine Kd.C_drew ?_))); (case side2 => exact HC0.out); rintro e w' ⟨rfl, ⟨nd, rfl⟩⟩; refine ⟨_, rfl, ?_⟩))
 go_ret
 exact ⟨by first | rfl | (simp; done) | (simp [*]; done), by repeat (first | exact Drawn0.refl _ | apply Drawn0.step)⟩

/-! ### ledger_Raw: function 25 -/
mutual
def ledger_Raw.l0 : Nat → List Int → Int → Int → List (S65) → Int → Int → Option (Int)
 | 0, _, _, _, _, _, _ => none
 | k + 1, x1, x2, x7, x10, x11, x12 => if x12 < x11 then (if 0 ≤ x12 then (if x12 < (x10.length : Int) then ((slices_Contains_int_int.f k x1 ((rd_T65 x10 x12).f0)).bind fun t252 => (if t252 = true then (if ((rd_T65 x10 x12).f4) = 3 then (ledger_Raw.j1 k x1 x2 x7 x10 x11 x12 ((rd_T65 x10 x12).f4) (((rd_T65 x10 x12).f4) == 3) ((rd_T65 x10 x12).f0) ((rd_T65 x10 x12).f1) ((rd_T65 x10 x12).f2) ((rd_T65 x10 x12).f3) ((rd_T65 x10 x12).f4) ((rd_T65 x10 x12).f5) ((rd_T65 x10 x12).f6) ((rd_T65 x10 x12).f7)) else (if ((rd_T65 x10 x12).f4) = 4 then (ledger_Raw.j1 k x1 x2 x7 x10 x11 x12 ((rd_T65 x10 x12).f4) (((rd_T65 x10 x12).f4) == 4) ((rd_T65 x10 x12).f0) ((rd_T65 x10 x12).f1) ((rd_T65 x10 x12).f2) ((rd_T65 x10 x12).f3) ((rd_T65 x10 x12).f4) ((rd_T65 x10 x12).f5) ((rd_T65 x10 x12).f6) ((rd_T65 x10 x12).f7)) else (ledger_Raw.j1 k x1 x2 x7 x10 x11 x12 ((rd_T65 x10 x12).f4) (((rd_T65 x10 x12).f4) == 5) ((rd_T65 x10 x12).f0) ((rd_T65 x10 x12).f1) ((rd_T65 x10 x12).f2) ((rd_T65 x10 x12).f3) ((rd_T65 x10 x12).f4) ((rd_T65 x10 x12).f5) ((rd_T65 x10 x12).f6) ((rd_T65 x10 x12).f7)))) else (ledger_Raw.l0 k x1 x2 x7 x10 x11 (wrap64 (x12 + 1))))) else (none)) else (none)) else (some x7)
def ledger_Raw.j1 : Nat → List Int → Int → Int → List (S65) → Int → Int → Int → Bool → Int → Int → Int → Int → Int → Int → Int → List Int → Option (Int)
 | 0, _, _, _, _, _, _, _, _, _, _, _, _, _, _, _, _ => none
 | k + 1, x1, x2, x7, x10, x11, x12, x22, x23, x252000, x252001, x252002, x252003, x252004, x252005, x252006, x252007 => if x23 = true then (ledger_Raw.l0 k x1 x2 (wrap64 (x7 + (wrap64 (x252001 * (wrap64 (x252006 - x252005)))))) x10 x11 (wrap64 (x12 + 1))) else (if x22 = 2 then (ledger_Raw.l0 k x1 x2 (wrap64 (x7 + (wrap64 (x252001 * (wrap64 (x2 - x252005)))))) x10 x11 (wrap64 (x12 + 1))) else (ledger_Raw.l0 k x1 x2 x7 x10 x11 (wrap64 (x12 + 1))))
end
def ledger_Raw.f (k : Nat) (l0 : List (S65)) (l1 : List Int) (a2 : Int) : Option (Int) := ledger_Raw.l0 k l1 a2 0 l0 (l0.length : Int) 0
theorem ledger_Raw.mono_l : ∀ k, (∀ y0 y1 y2 y3 y4 y5, LeO (ledger_Raw.l0 k y0 y1 y2 y3 y4 y5) (ledger_Raw.l0 (k + 1) y0 y1 y2 y3 y4 y5)) ∧ (∀ y0 y1 y2 y3 y4 y5 y6 y7 y8 y9 y10 y11 y12 y13 y14 y15, LeO (ledger_Raw.j1 k y0 y1 y2 y3 y4 y5 y6 y7 y8 y9 y10 y11 y12 y13 y14 y15) (ledger_Raw.j1 (k + 1) y0 y1 y2 y3 y4 y5 y6 y7 y8 y9 y10 y11 y12 y13 y14 y15))
 | 0 => ⟨fun _ _ _ _ _ _ r h => by simp [ledger_Raw.l0] at h, fun _ _ _ _ _ _ _ _ _ _ _ _ _ _ _ _ r h => by simp [ledger_Raw.j1] at h⟩
 | k + 1 => by
  obtain ⟨ih0, ih1⟩ := ledger_Raw.mono_l k
  refine ⟨?_, ?_⟩
  ·intro y0 y1 y2 y3 y4 y5
   unfold ledger_Raw.l0
   repeat' first
   | (with_reducible exact ih0 _ _ _ _ _ _)
   | (with_reducible exact ih1 _ _ _ _ _ _ _ _ _ _ _ _ _ _ _ _)
   | (with_reducible exact slices_Contains_int_int.mono _ _ _)
   | (with_reducible exact LeO.refl _)
   | (with_reducible exact LeO.none _)
   | (with_reducible refine LeO.ite ?_ ?_)
   | (with_reducible refine LeO.bind ?_ (fun _ => ?_))
   | exact ih0 _ _ _ _ _ _
   | exact ih1 _ _ _ _ _ _ _ _ _ _ _ _ _ _ _ _
   | exact slices_Contains_int_int.mono _ _ _
   | exact LeO.none _
   | refine LeO.ite ?_ ?_
   | refine LeO.bind ?_ (fun _ => ?_)
  ·intro y0 y1 y2 y3 y4 y5 y6 y7 y8 y9 y10 y11 y12 y13 y14 y15
   unfold ledger_Raw.j1
   repeat' first
   | (with_reducible exact ih0 _ _ _ _ _ _)
   | (with_reducible exact ih1 _ _ _ _ _ _ _ _ _ _ _ _ _ _ _ _)
   | (with_reducible exact slices_Contains_int_int.mono _ _ _)
   | (with_reducible exact LeO.refl _)
   | (with_reducible exact LeO.none _)
   | (with_reducible refine LeO.ite ?_ ?_)
   | (with_reducible refine LeO.bind ?_ (fun _ => ?_))
   | exact ih0 _ _ _ _ _ _
   | exact ih1 _ _ _ _ _ _ _ _ _ _ _ _ _ _ _ _
   | exact slices_Contains_int_int.mono _ _ _
   | exact LeO.none _
   | refine LeO.ite ?_ ?_
   | refine LeO.bind ?_ (fun _ => ?_)
theorem ledger_Raw.mono : ∀ a0 a1 a2 k, LeO (ledger_Raw.f k a0 a1 a2) (ledger_Raw.f (k + 1) a0 a1 a2) := by
 intro a0 a1 a2 k
 obtain ⟨ih0, ih1⟩ := ledger_Raw.mono_l k
 unfold ledger_Raw.f
 repeat' first
   | (with_reducible exact ih0 _ _ _ _ _ _)
   | (with_reducible exact ih1 _ _ _ _ _ _ _ _ _ _ _ _ _ _ _ _)
   | (with_reducible exact slices_Contains_int_int.mono _ _ _)
   | (with_reducible exact LeO.refl _)
   | (with_reducible exact LeO.none _)
   | (with_reducible refine LeO.ite ?_ ?_)
   | (with_reducible refine LeO.bind ?_ (fun _ => ?_))
   | exact ih0 _ _ _ _ _ _
   | exact ih1 _ _ _ _ _ _ _ _ _ _ _ _ _ _ _ _
   | exact slices_Contains_int_int.mono _ _ _
   | exact LeO.none _
   | refine LeO.ite ?_ ?_
   | refine LeO.bind ?_ (fun _ => ?_)
set_option maxHeartbeats 8000000 in
set_option maxRecDepth 100000 in
theorem ledger_Raw.calls (k : Nat) (A0 : Option Addr) (c0 : Nat) (l0 : List (S65)) (A1 : Option Addr) (c1 : Nat) (l1 : List Int) (a2 : Int) (r : Int) (w : World) (hr0 : Kd.C k65 w A0 l0.length l0) (hc0 : l0.length ≤ c0) (hr1 : Kd.C (Kd.int .i64) w A1 l1.length l1) (hc1 : l1.length ≤ c1) (h : ledger_Raw.f k l0 l1 a2 = some r) :
  Calls Tryd.prog 25 #[.slice A0 l0.length c0, .slice A1 l1.length c1, .int .i64 a2] w fun e w' => e = .returned (.int .i64 r) ∧ Below w.heap.size w w' := by
 have hu65 := Tryd.underlying65
 have HR0 := Aside0.mk hr0
 have HC0 := Aside0.mk hc0
 clear hr0 hc0
 have HR1 := Aside0.mk hr1
 have HC1 := Aside0.mk hc1
 clear hr1 hc1; have HB := Aside0.mk (Below.refl w.heap.size w)
 have H : (ledger_Raw.l0 k l1 a2 0 l0 (l0.length : Int) 0) = some r := h
 clear h
 have H' := Aside0.mk H
 clear H
 go_enter Tryd.func25, Tryd.ntmps25
 go_wp2
 go_loopg [7, 12] k (fun kq v7 v12 w' => ∃ (x7_1 : Int) (x12_1 : Int), v7 = .int .i64 x7_1 ∧ v12 = .int .i64 x12_1 ∧ Aside0 (ledger_Raw.l0 kq l1 a2 x7_1 l0 (l0.length : Int) x12_1 = some r) ∧ Aside0 (kq ≤ k) ∧ Aside0 (Below w.heap.size w w'))
 case atStart => exact ⟨(0), (0), (by first | rfl | (simp; done) | (simp [*]; done)), (by first | rfl | (simp; done) | (simp [*]; done)), H', ⟨Nat.le_refl _⟩, ⟨bA⟩⟩
 case round =>
  clear H'
  try clear c1
  try clear c2
  try clear p2
  obtain ⟨x7_1, x12_1, rfl, rfl, HA, HK1, HB⟩ := hrel
  cases gk with
  | zero => exact absurd HA.out (by simp [ledger_Raw.l0])
  | succ k1 =>
   have H := HA.out
   clear HA
   simp only [ledger_Raw.l0] at H
   by_cases c4 : x12_1 < (l0.length : Int)
   ·rw [if_pos c4] at H
    have c4b0 : decide (x12_1 < (l0.length : Int)) = true := decide_eq_true c4
    clear c4
    by_cases c5 : 0 ≤ x12_1
    ·rw [if_pos c5] at H
     have c5b0 : decide (0 ≤ x12_1) = true := decide_eq_true c5
     clear c5
     by_cases c6 : x12_1 < (l0.length : Int)
     ·rw [if_pos c6] at H
      have c6b0 : decide (x12_1 < (l0.length : Int)) = true := decide_eq_true c6
      clear c6; replace H := Option.bind_eq_some_iff.mp H; obtain ⟨t252, A70, H⟩ := H; replace H : (if t252 = true then (if ((rd_T65 l0 x12_1).f4) = 3 then (ledger_Raw.j1 k1 l1 a2 x7_1 l0 (l0.length : Int) x12_1 ((rd_T65 l0 x12_1).f4) (((rd_T65 l0 x12_1).f4) == 3) ((rd_T65 l0 x12_1).f0) ((rd_T65 l0 x12_1).f1) ((rd_T65 l0 x12_1).f2) ((rd_T65 l0 x12_1).f3) ((rd_T65 l0 x12_1).f4) ((rd_T65 l0 x12_1).f5) ((rd_T65 l0 x12_1).f6) ((rd_T65 l0 x12_1).f7)) else (if ((rd_T65 l0 x12_1).f4) = 4 then (ledger_Raw.j1 k1 l1 a2 x7_1 l0 (l0.length : Int) x12_1 ((rd_T65 l0 x12_1).f4) (((rd_T65 l0 x12_1).f4) == 4) ((rd_T65 l0 x12_1).f0) ((rd_T65 l0 x12_1).f1) ((rd_T65 l0 x12_1).f2) ((rd_T65 l0 x12_1).f3) ((rd_T65 l0 x12_1).f4) ((rd_T65 l0 x12_1).f5) ((rd_T65 l0 x12_1).f6) ((rd_T65 l0 x12_1).f7)) else (ledger_Raw.j1 k1 l1 a2 x7_1 l0 (l0.length : Int) x12_1 ((rd_T65 l0 x12_1).f4) (((rd_T65 l0 x12_1).f4) == 5) ((rd_T65 l0 x12_1).f0) ((rd_T65 l0 x12_1).f1) ((rd_T65 l0 x12_1).f2) ((rd_T65 l0 x12_1).f3) ((rd_T65 l0 x12_1).f4) ((rd_T65 l0 x12_1).f5) ((rd_T65 l0 x12_1).f6) ((rd_T65 l0 x12_1).f7)))) else (ledger_Raw.l0 k1 l1 a2 x7_1 l0 (l0.length : Int) (wrap64 (x12_1 + 1)))) = some r := H; have A7 := Aside0.mk A70; clear A70
      by_cases c8 : t252 = true
      ·subst c8
       have H1 : (if ((rd_T65 l0 x12_1).f4) = 3 then (ledger_Raw.j1 k1 l1 a2 x7_1 l0 (l0.length : Int) x12_1 ((rd_T65 l0 x12_1).f4) (((rd_T65 l0 x12_1).f4) == 3) ((rd_T65 l0 x12_1).f0) ((rd_T65 l0 x12_1).f1) ((rd_T65 l0 x12_1).f2) ((rd_T65 l0 x12_1).f3) ((rd_T65 l0 x12_1).f4) ((rd_T65 l0 x12_1).f5) ((rd_T65 l0 x12_1).f6) ((rd_T65 l0 x12_1).f7)) else (if ((rd_T65 l0 x12_1).f4) = 4 then (ledger_Raw.j1 k1 l1 a2 x7_1 l0 (l0.length : Int) x12_1 ((rd_T65 l0 x12_1).f4) (((rd_T65 l0 x12_1).f4) == 4) ((rd_T65 l0 x12_1).f0) ((rd_T65 l0 x12_1).f1) ((rd_T65 l0 x12_1).f2) ((rd_T65 l0 x12_1).f3) ((rd_T65 l0 x12_1).f4) ((rd_T65 l0 x12_1).f5) ((rd_T65 l0 x12_1).f6) ((rd_T65 l0 x12_1).f7)) else (ledger_Raw.j1 k1 l1 a2 x7_1 l0 (l0.length : Int) x12_1 ((rd_T65 l0 x12_1).f4) (((rd_T65 l0 x12_1).f4) == 5) ((rd_T65 l0 x12_1).f0) ((rd_T65 l0 x12_1).f1) ((rd_T65 l0 x12_1).f2) ((rd_T65 l0 x12_1).f3) ((rd_T65 l0 x12_1).f4) ((rd_T65 l0 x12_1).f5) ((rd_T65 l0 x12_1).f6) ((rd_T65 l0 x12_1).f7)))) = some r := by rw [if_pos rfl] at H; exact H
       clear H
       have H := H1
       clear H1
       have HC9 := Aside0.mk H
       clear H
       have p250 : 0 ≤ (x12_1 : Int) := of_decide_eq_true (by first | (with_reducible assumption) | assumption)
       have q250 : x12_1 < (l0.length : Int) := of_decide_eq_true (by first | (with_reducible assumption) | assumption)
       obtain ⟨ad250, A250_7, c250_7, e250, hx250_0, hx250_1, hx250_2, hx250_3, hx250_4, hx250_5, hx250_6, hx250_7, hl250_7, hi250_7⟩ := at_T65 HR0.out x12_1 p250 q250
       cases e250
       replace hx250_0 := (HB.out.cell (World.block_lt_of_cell? w _ hx250_0)).trans hx250_0
       replace hx250_1 := (HB.out.cell (World.block_lt_of_cell? w _ hx250_1)).trans hx250_1
       replace hx250_2 := (HB.out.cell (World.block_lt_of_cell? w _ hx250_2)).trans hx250_2
       replace hx250_3 := (HB.out.cell (World.block_lt_of_cell? w _ hx250_3)).trans hx250_3
       replace hx250_4 := (HB.out.cell (World.block_lt_of_cell? w _ hx250_4)).trans hx250_4
       replace hx250_5 := (HB.out.cell (World.block_lt_of_cell? w _ hx250_5)).trans hx250_5
       replace hx250_6 := (HB.out.cell (World.block_lt_of_cell? w _ hx250_6)).trans hx250_6
       replace hx250_7 := (HB.out.cell (World.block_lt_of_cell? w _ hx250_7)).trans hx250_7
       have HR250_7 := Aside0.mk hi250_7
       have HC250_7 := Aside0.mk hl250_7
       clear hi250_7 hl250_7
       replace p250 := eq_true p250
       replace q250 := eq_true q250
       go_upto_if 23 with (first | ((with_reducible refine gate_dst (N := 9) rfl ?_); refine bxA 9 #[.int .i64 0, .int .i64 0, .int .i64 0, .int .i64 0, .int .i64 0, .int .i64 0, .int .i64 0, .slice none 0 0] 65 ?_; intro gb251 hg w10 hbox hb; have n0_ := Aside0.mk (below_step bA hb); have n1_ := Aside0.mk (hbox); have n2_ := Aside0.mk (gwA hg bA); have n3_ := Aside0.mk (gwA hg bA); clear HB; have HB := n0_; have BK251 := n1_; have GW251 := n2_; have GE251 := n3_; clear n0_ n1_ n2_ n3_ hb hbox hg; have hcz11_0 : w10.cell? ⟨gb251, 0, none⟩ = some (.int .i64 0) := (blk_cell BK251.out 0).trans rfl; have hcz11_1 : w10.cell? ⟨gb251, 1, none⟩ = some (.int .i64 0) := (blk_cell BK251.out 1).trans rfl; have hcz11_2 : w10.cell? ⟨gb251, 2, none⟩ = some (.int .i64 0) := (blk_cell BK251.out 2).trans rfl; have hcz11_3 : w10.cell? ⟨gb251, 3, none⟩ = some (.int .i64 0) := (blk_cell BK251.out 3).trans rfl; have hcz11_4 : w10.cell? ⟨gb251, 4, none⟩ = some (.int .i64 0) := (blk_cell BK251.out 4).trans rfl; have hcz11_5 : w10.cell? ⟨gb251, 5, none⟩ = some (.int .i64 0) := (blk_cell BK251.out 5).trans rfl; have hcz11_6 : w10.cell? ⟨gb251, 6, none⟩ = some (.int .i64 0) := (blk_cell BK251.out 6).trans rfl; have hcz11_7 : w10.cell? ⟨gb251, 7, none⟩ = some (.slice none 0 0) := (blk_cell BK251.out 7).trans rfl; have hfz11_0 := blk_frozen BK251.out 0; have hfz11_1 := blk_frozen BK251.out 1; have hfz11_2 := blk_frozen BK251.out 2; have hfz11_3 := blk_frozen BK251.out 3; have hfz11_4 := blk_frozen BK251.out 4; have hfz11_5 := blk_frozen BK251.out 5; have hfz11_6 := blk_frozen BK251.out 6; have hfz11_7 := blk_frozen BK251.out 7) | ((with_reducible refine gate_callee (f := 50) rfl ?_); refine goesL_ (some 19) rfl rfl Tryd.func50 (by kernel_rfl) rfl #[.slice A1 l1.length c1, .int .i64 ((rd_T65 l0 x12_1).f0)] rfl aA ?_; (with_reducible refine (slices_Contains_int_int.calls k1 _ _ l1 ((rd_T65 l0 x12_1).f0) true _ ?side1 ?side2 A7.out).mono ?_); (case side1 => exact Kd.C_below HR1.out bA); (case side2 => exact HC1.out); rintro e w' ⟨rfl, ⟨nd, rfl⟩⟩; refine ⟨_, rfl, ?_⟩))
       (try simp only [Act.put, List.setIfInBounds_toArray, List.set_cons_zero, List.set_cons_succ])
       go_cut [23] (fun v23 wc => ∃ (kq : Nat) (x23_8 : Bool), v23 = .bool x23_8 ∧ Aside0 (ledger_Raw.j1 kq l1 a2 x7_1 l0 (l0.length : Int) x12_1 ((rd_T65 l0 x12_1).f4) x23_8 ((rd_T65 l0 x12_1).f0) ((rd_T65 l0 x12_1).f1) ((rd_T65 l0 x12_1).f2) ((rd_T65 l0 x12_1).f3) ((rd_T65 l0 x12_1).f4) ((rd_T65 l0 x12_1).f5) ((rd_T65 l0 x12_1).f6) ((rd_T65 l0 x12_1).f7) = some r) ∧ Aside0 (kq ≤ k1) ∧ Aside0 (wc.heap[gb251]? = some (.cells #[.int .i64 ((rd_T65 l0 x12_1).f0), .int .i64 ((rd_T65 l0 x12_1).f1), .int .i64 ((rd_T65 l0 x12_1).f2), .int .i64 ((rd_T65 l0 x12_1).f3), .int .i64 ((rd_T65 l0 x12_1).f4), .int .i64 ((rd_T65 l0 x12_1).f5), .int .i64 ((rd_T65 l0 x12_1).f6), (.slice A250_7 ((rd_T65 l0 x12_1).f7).length c250_7)] 65 (0, 0))) ∧ Aside0 (Below w.heap.size w wc))
       case first =>
        have H := HC9.out
        clear HC9
        by_cases c12 : ((rd_T65 l0 x12_1).f4) = 3
        ·rw [if_pos c12] at H
         have c12b0 : (((rd_T65 l0 x12_1).f4) == 3) = true := beq_iff_eq.mpr c12
         have c12b1 : (((rd_T65 l0 x12_1).f4) != 3) = false := bne_eq_false_iff_eq.mpr c12
         clear c12
         (first | rw [c12b0] | (simp only [i64_w, i32_w]; rw [c12b0]) | skip)
         have H' := Aside0.mk H
         clear H
         go_wp2
         go_meet
         case rel => exact ⟨_, ((((rd_T65 l0 x12_1).f4) == 3)), (by first | rfl | (simp; done) | (simp [*]; done)), H', ⟨by have := HK1.out; first | omega | exact Nat.le_refl _⟩, ⟨by (with_reducible repeat (first | refine blk_drewN ?_ _ | refine blk_drew ?_ | refine blk_alloc ?_ _)); refine blk_put (cs := #[.int .i64 ((rd_T65 l0 x12_1).f0), .int .i64 ((rd_T65 l0 x12_1).f1), .int .i64 ((rd_T65 l0 x12_1).f2), .int .i64 ((rd_T65 l0 x12_1).f3), .int .i64 ((rd_T65 l0 x12_1).f4), .int .i64 ((rd_T65 l0 x12_1).f5), .int .i64 ((rd_T65 l0 x12_1).f6), .slice none 0 0]) ?_ 7 _ rfl; (with_reducible repeat (first | refine blk_drewN ?_ _ | refine blk_drew ?_ | refine blk_alloc ?_ _)); refine blk_put (cs := #[.int .i64 ((rd_T65 l0 x12_1).f0), .int .i64 ((rd_T65 l0 x12_1).f1), .int .i64 ((rd_T65 l0 x12_1).f2), .int .i64 ((rd_T65 l0 x12_1).f3), .int .i64 ((rd_T65 l0 x12_1).f4), .int .i64 ((rd_T65 l0 x12_1).f5), .int .i64 0, .slice none 0 0]) ?_ 6 _ rfl; (with_reducible repeat (first | refine blk_drewN ?_ _ | refine blk_drew ?_ | refine blk_alloc ?_ _)); refine blk_put (cs := #[.int .i64 ((rd_T65 l0 x12_1).f0), .int .i64 ((rd_T65 l0 x12_1).f1), .int .i64 ((rd_T65 l0 x12_1).f2), .int .i64 ((rd_T65 l0 x12_1).f3), .int .i64 ((rd_T65 l0 x12_1).f4), .int .i64 0, .int .i64 0, .slice none 0 0]) ?_ 5 _ rfl; (with_reducible repeat (first | refine blk_drewN ?_ _ | refine blk_drew ?_ | refine blk_alloc ?_ _)); refine blk_put (cs := #[.int .i64 ((rd_T65 l0 x12_1).f0), .int .i64 ((rd_T65 l0 x12_1).f1), .int .i64 ((rd_T65 l0 x12_1).f2), .int .i64 ((rd_T65 l0 x12_1).f3), .int .i64 0, .int .i64 0, .int .i64 0, .slice none 0 0]) ?_ 4 _ rfl; (with_reducible repeat (first | refine blk_drewN ?_ _ | refine blk_drew ?_ | refine blk_alloc ?_ _)); refine blk_put (cs := #[.int .i64 ((rd_T65 l0 x12_1).f0), .int .i64 ((rd_T65 l0 x12_1).f1), .int .i64 ((rd_T65 l0 x12_1).f2), .int .i64 0, .int .i64 0, .int .i64 0, .int .i64 0, .slice none 0 0]) ?_ 3 _ rfl; (with_reducible repeat (first | refine blk_drewN ?_ _ | refine blk_drew ?_ | refine blk_alloc ?_ _)); refine blk_put (cs := #[.int .i64 ((rd_T65 l0 x12_1).f0), .int .i64 ((rd_T65 l0 x12_1).f1), .int .i64 0, .int .i64 0, .int .i64 0, .int .i64 0, .int .i64 0, .slice none 0 0]) ?_ 2 _ rfl; (with_reducible repeat (first | refine blk_drewN ?_ _ | refine blk_drew ?_ | refine blk_alloc ?_ _)); refine blk_put (cs := #[.int .i64 ((rd_T65 l0 x12_1).f0), .int .i64 0, .int .i64 0, .int .i64 0, .int .i64 0, .int .i64 0, .int .i64 0, .slice none 0 0]) ?_ 1 _ rfl; (with_reducible repeat (first | refine blk_drewN ?_ _ | refine blk_drew ?_ | refine blk_alloc ?_ _)); refine blk_put (cs := #[.int .i64 0, .int .i64 0, .int .i64 0, .int .i64 0, .int .i64 0, .int .i64 0, .int .i64 0, .slice none 0 0]) ?_ 0 _ rfl; exact kA⟩, ⟨bA⟩⟩
        ·rw [if_neg c12] at H
         have c12b0 : (((rd_T65 l0 x12_1).f4) == 3) = false := beq_eq_false_iff_ne.mpr c12
         have c12b1 : (((rd_T65 l0 x12_1).f4) != 3) = true := bne_iff_ne.mpr c12
         (first | rw [c12b0] | (simp only [i64_w, i32_w]; rw [c12b0]) | skip)
         by_cases c13 : ((rd_T65 l0 x12_1).f4) = 4
         ·rw [if_pos c13] at H
          have c13b0 : (((rd_T65 l0 x12_1).f4) == 4) = true := beq_iff_eq.mpr c13
          have c13b1 : (((rd_T65 l0 x12_1).f4) != 4) = false := bne_eq_false_iff_eq.mpr c13
          clear c13
          have H' := Aside0.mk H
          clear H
          go_wp2
          go_meet
          case rel => exact ⟨_, ((((rd_T65 l0 x12_1).f4) == 4)), (by first | rfl | (simp; done) | (simp [*]; done)), H', ⟨by have := HK1.out; first | omega | exact Nat.le_refl _⟩, ⟨by (with_reducible repeat (first | refine blk_drewN ?_ _ | refine blk_drew ?_ | refine blk_alloc ?_ _)); refine blk_put (cs := #[.int .i64 ((rd_T65 l0 x12_1).f0), .int .i64 ((rd_T65 l0 x12_1).f1), .int .i64 ((rd_T65 l0 x12_1).f2), .int .i64 ((rd_T65 l0 x12_1).f3), .int .i64 ((rd_T65 l0 x12_1).f4), .int .i64 ((rd_T65 l0 x12_1).f5), .int .i64 ((rd_T65 l0 x12_1).f6), .slice none 0 0]) ?_ 7 _ rfl; (with_reducible repeat (first | refine blk_drewN ?_ _ | refine blk_drew ?_ | refine blk_alloc ?_ _)); refine blk_put (cs := #[.int .i64 ((rd_T65 l0 x12_1).f0), .int .i64 ((rd_T65 l0 x12_1).f1), .int .i64 ((rd_T65 l0 x12_1).f2), .int .i64 ((rd_T65 l0 x12_1).f3), .int .i64 ((rd_T65 l0 x12_1).f4), .int .i64 ((rd_T65 l0 x12_1).f5), .int .i64 0, .slice none 0 0]) ?_ 6 _ rfl; (with_reducible repeat (first | refine blk_drewN ?_ _ | refine blk_drew ?_ | refine blk_alloc ?_ _)); refine blk_put (cs := #[.int .i64 ((rd_T65 l0 x12_1).f0), .int .i64 ((rd_T65 l0 x12_1).f1), .int .i64 ((rd_T65 l0 x12_1).f2), .int .i64 ((rd_T65 l0 x12_1).f3), .int .i64 ((rd_T65 l0 x12_1).f4), .int .i64 0, .int .i64 0, .slice none 0 0]) ?_ 5 _ rfl; (with_reducible repeat (first | refine blk_drewN ?_ _ | refine blk_drew ?_ | refine blk_alloc ?_ _)); refine blk_put (cs := #[.int .i64 ((rd_T65 l0 x12_1).f0), .int .i64 ((rd_T65 l0 x12_1).f1), .int .i64 ((rd_T65 l0 x12_1).f2), .int .i64 ((rd_T65 l0 x12_1).f3), .int .i64 0, .int .i64 0, .int .i64 0, .slice none 0 0]) ?_ 4 _ rfl; (with_reducible repeat (first | refine blk_drewN ?_ _ | refine blk_drew ?_ | refine blk_alloc ?_ _)); refine blk_put (cs := #[.int .i64 ((rd_T65 l0 x12_1).f0), .int .i64 ((rd_T65 l0 x12_1).f1), .int .i64 ((rd_T65 l0 x12_1).f2), .int .i64 0, .int .i64 0, .int .i64 0, .int .i64 0, .slice none 0 0]) ?_ 3 _ rfl; (with_reducible repeat (first | refine blk_drewN ?_ _ | refine blk_drew ?_ | refine blk_alloc ?_ _)); refine blk_put (cs := #[.int .i64 ((rd_T65 l0 x12_1).f0), .int .i64 ((rd_T65 l0 x12_1).f1), .int .i64 0, .int .i64 0, .int .i64 0, .int .i64 0, .int .i64 0, .slice none 0 0]) ?_ 2 _ rfl; (with_reducible repeat (first | refine blk_drewN ?_ _ | refine blk_drew ?_ | refine blk_alloc ?_ _)); refine blk_put (cs := #[.int .i64 ((rd_T65 l0 x12_1).f0), .int .i64 0, .int .i64 0, .int .i64 0, .int .i64 0, .int .i64 0, .int .i64 0, .slice none 0 0]) ?_ 1 _ rfl; (with_reducible repeat (first | refine blk_drewN ?_ _ | refine blk_drew ?_ | refine blk_alloc ?_ _)); refine blk_put (cs := #[.int .i64 0, .int .i64 0, .int .i64 0, .int .i64 0, .int .i64 0, .int .i64 0, .int .i64 0, .slice none 0 0]) ?_ 0 _ rfl; exact kA⟩, ⟨bA⟩⟩
         ·rw [if_neg c13] at H
          have c13b0 : (((rd_T65 l0 x12_1).f4) == 4) = false := beq_eq_false_iff_ne.mpr c13
          have c13b1 : (((rd_T65 l0 x12_1).f4) != 4) = true := bne_iff_ne.mpr c13
          have H' := Aside0.mk H
          clear H
          go_wp2
          go_meet
          case rel => exact ⟨_, ((((rd_T65 l0 x12_1).f4) == 5)), (by first | rfl | (simp; done) | (simp [*]; done)), H', ⟨by have := HK1.out; first | omega | exact Nat.le_refl _⟩, ⟨by (with_reducible repeat (first | refine blk_drewN ?_ _ | refine blk_drew ?_ | refine blk_alloc ?_ _)); refine blk_put (cs := #[.int .i64 ((rd_T65 l0 x12_1).f0), .int .i64 ((rd_T65 l0 x12_1).f1), .int .i64 ((rd_T65 l0 x12_1).f2), .int .i64 ((rd_T65 l0 x12_1).f3), .int .i64 ((rd_T65 l0 x12_1).f4), .int .i64 ((rd_T65 l0 x12_1).f5), .int .i64 ((rd_T65 l0 x12_1).f6), .slice none 0 0]) ?_ 7 _ rfl; (with_reducible repeat (first | refine blk_drewN ?_ _ | refine blk_drew ?_ | refine blk_alloc ?_ _)); refine blk_put (cs := #[.int .i64 ((rd_T65 l0 x12_1).f0), .int .i64 ((rd_T65 l0 x12_1).f1), .int .i64 ((rd_T65 l0 x12_1).f2), .int .i64 ((rd_T65 l0 x12_1).f3), .int .i64 ((rd_T65 l0 x12_1).f4), .int .i64 ((rd_T65 l0 x12_1).f5), .int .i64 0, .slice none 0 0]) ?_ 6 _ rfl; (with_reducible repeat (first | refine blk_drewN ?_ _ | refine blk_drew ?_ | refine blk_alloc ?_ _)); refine blk_put (cs := #[.int .i64 ((rd_T65 l0 x12_1).f0), .int .i64 ((rd_T65 l0 x12_1).f1), .int .i64 ((rd_T65 l0 x12_1).f2), .int .i64 ((rd_T65 l0 x12_1).f3), .int .i64 ((rd_T65 l0 x12_1).f4), .int .i64 0, .int .i64 0, .slice none 0 0]) ?_ 5 _ rfl; (with_reducible repeat (first | refine blk_drewN ?_ _ | refine blk_drew ?_ | refine blk_alloc ?_ _)); refine blk_put (cs := #[.int .i64 ((rd_T65 l0 x12_1).f0), .int .i64 ((rd_T65 l0 x12_1).f1), .int .i64 ((rd_T65 l0 x12_1).f2), .int .i64 ((rd_T65 l0 x12_1).f3), .int .i64 0, .int .i64 0, .int .i64 0, .slice none 0 0]) ?_ 4 _ rfl; (with_reducible repeat (first | refine blk_drewN ?_ _ | refine blk_drew ?_ | refine blk_alloc ?_ _)); refine blk_put (cs := #[.int .i64 ((rd_T65 l0 x12_1).f0), .int .i64 ((rd_T65 l0 x12_1).f1), .int .i64 ((rd_T65 l0 x12_1).f2), .int .i64 0, .int .i64 0, .int .i64 0, .int .i64 0, .slice none 0 0]) ?_ 3 _ rfl; (with_reducible repeat (first | refine blk_drewN ?_ _ | refine blk_drew ?_ | refine blk_alloc ?_ _)); refine blk_put (cs := #[.int .i64 ((rd_T65 l0 x12_1).f0), .int .i64 ((rd_T65 l0 x12_1).f1), .int .i64 0, .int .i64 0, .int .i64 0, .int .i64 0, .int .i64 0, .slice none 0 0]) ?_ 2 _ rfl; (with_reducible repeat (first | refine blk_drewN ?_ _ | refine blk_drew ?_ | refine blk_alloc ?_ _)); refine blk_put (cs := #[.int .i64 ((rd_T65 l0 x12_1).f0), .int .i64 0, .int .i64 0, .int .i64 0, .int .i64 0, .int .i64 0, .int .i64 0, .slice none 0 0]) ?_ 1 _ rfl; (with_reducible repeat (first | refine blk_drewN ?_ _ | refine blk_drew ?_ | refine blk_alloc ?_ _)); refine blk_put (cs := #[.int .i64 0, .int .i64 0, .int .i64 0, .int .i64 0, .int .i64 0, .int .i64 0, .int .i64 0, .slice none 0 0]) ?_ 0 _ rfl; exact kA⟩, ⟨bA⟩⟩
       case rest =>
        clear HC9
        try clear c1
        try clear c2
        try clear p2
        try clear q2
        try clear hx2
        try clear c4
        try clear c4b0
        try clear c5
        try clear c5b0
        try clear c6
        try clear c6b0
        try clear p6
        try clear c8
        try clear c12
        try clear c12b0
        try clear c12b1
        try clear c13
        try clear c13b0
        try clear c13b1
        try clear hcz11_0
        try clear hcz11_1
        try clear hcz11_2
        try clear hcz11_3
        try clear hcz11_4
        try clear hcz11_5
        try clear hcz11_6
        try clear hcz11_7
        try clear hfz11_0
        try clear hfz11_1
        try clear hfz11_2
        try clear hfz11_3
        try clear hfz11_4
        try clear hfz11_5
        try clear hfz11_6
        try clear hfz11_7
        try clear hx250_0
        try clear hx250_1
        try clear hx250_2
        try clear hx250_3
        try clear hx250_4
        try clear hx250_5
        try clear hx250_6
        try clear hx250_7
        try clear p2
        try clear p250
        try clear q250
        obtain ⟨kq, x23_8, rfl, HA, HJ8, BK251, HB⟩ := hcut
        cases kq with
        | zero => exact absurd HA.out (by simp [ledger_Raw.j1])
        | succ kj8 =>
         have H := HA.out
         clear HA
         simp only [ledger_Raw.j1] at H
         by_cases c14 : x23_8 = true
         ·subst c14
          have H1 : (ledger_Raw.l0 kj8 l1 a2 (wrap64 (x7_1 + (wrap64 (((rd_T65 l0 x12_1).f1) * (wrap64 (((rd_T65 l0 x12_1).f6) - ((rd_T65 l0 x12_1).f5))))))) l0 (l0.length : Int) (wrap64 (x12_1 + 1))) = some r := by rw [if_pos rfl] at H; exact H
          clear H
          have H := H1
          clear H1
          have H' := Aside0.mk H
          clear H
          have hcz15_0 : wc.cell? ⟨gb251, 0, none⟩ = some (.int .i64 ((rd_T65 l0 x12_1).f0)) := (blk_cell BK251.out 0).trans rfl
          have hcz15_1 : wc.cell? ⟨gb251, 1, none⟩ = some (.int .i64 ((rd_T65 l0 x12_1).f1)) := (blk_cell BK251.out 1).trans rfl
          have hcz15_2 : wc.cell? ⟨gb251, 2, none⟩ = some (.int .i64 ((rd_T65 l0 x12_1).f2)) := (blk_cell BK251.out 2).trans rfl
          have hcz15_3 : wc.cell? ⟨gb251, 3, none⟩ = some (.int .i64 ((rd_T65 l0 x12_1).f3)) := (blk_cell BK251.out 3).trans rfl
          have hcz15_4 : wc.cell? ⟨gb251, 4, none⟩ = some (.int .i64 ((rd_T65 l0 x12_1).f4)) := (blk_cell BK251.out 4).trans rfl
          have hcz15_5 : wc.cell? ⟨gb251, 5, none⟩ = some (.int .i64 ((rd_T65 l0 x12_1).f5)) := (blk_cell BK251.out 5).trans rfl
          have hcz15_6 : wc.cell? ⟨gb251, 6, none⟩ = some (.int .i64 ((rd_T65 l0 x12_1).f6)) := (blk_cell BK251.out 6).trans rfl
          have hcz15_7 : wc.cell? ⟨gb251, 7, none⟩ = some (.slice A250_7 ((rd_T65 l0 x12_1).f7).length c250_7) := (blk_cell BK251.out 7).trans rfl
          have hfz15_0 := blk_frozen BK251.out 0
          have hfz15_1 := blk_frozen BK251.out 1
          have hfz15_2 := blk_frozen BK251.out 2
          have hfz15_3 := blk_frozen BK251.out 3
          have hfz15_4 := blk_frozen BK251.out 4
          have hfz15_5 := blk_frozen BK251.out 5
          have hfz15_6 := blk_frozen BK251.out 6
          have hfz15_7 := blk_frozen BK251.out 7
          go_wp2
          go_roundg kj8
          case measure => have := HK1.out; have := HJ8.out; omega
          case rel => exact ⟨(wrap64 (x7_1 + (wrap64 (((rd_T65 l0 x12_1).f1) * (wrap64 (((rd_T65 l0 x12_1).f6) - ((rd_T65 l0 x12_1).f5))))))), (wrap64 (x12_1 + 1)), (by first | rfl | (simp; done) | (simp [*]; done)), (by first | rfl | (simp; done) | (simp [*]; done)), H', ⟨by have := HK1.out; have := HJ8.out; omega⟩, ⟨bA⟩⟩
         ·replace c14 := Bool.eq_false_iff.mpr c14
          subst c14
          have H1 : (if ((rd_T65 l0 x12_1).f4) = 2 then (ledger_Raw.l0 kj8 l1 a2 (wrap64 (x7_1 + (wrap64 (((rd_T65 l0 x12_1).f1) * (wrap64 (a2 - ((rd_T65 l0 x12_1).f5))))))) l0 (l0.length : Int) (wrap64 (x12_1 + 1))) else (ledger_Raw.l0 kj8 l1 a2 x7_1 l0 (l0.length : Int) (wrap64 (x12_1 + 1)))) = some r := by rw [if_neg (show ¬ (false = true) by decide)] at H; exact H
          clear H
          have H := H1
          clear H1
          by_cases c16 : ((rd_T65 l0 x12_1).f4) = 2
          ·rw [if_pos c16] at H
           have c16b0 : (((rd_T65 l0 x12_1).f4) == 2) = true := beq_iff_eq.mpr c16
           have c16b1 : (((rd_T65 l0 x12_1).f4) != 2) = false := bne_eq_false_iff_eq.mpr c16
           clear c16
           have H' := Aside0.mk H
           clear H
           have hcz17_0 : wc.cell? ⟨gb251, 0, none⟩ = some (.int .i64 ((rd_T65 l0 x12_1).f0)) := (blk_cell BK251.out 0).trans rfl
           have hcz17_1 : wc.cell? ⟨gb251, 1, none⟩ = some (.int .i64 ((rd_T65 l0 x12_1).f1)) := (blk_cell BK251.out 1).trans rfl
           have hcz17_2 : wc.cell? ⟨gb251, 2, none⟩ = some (.int .i64 ((rd_T65 l0 x12_1).f2)) := (blk_cell BK251.out 2).trans rfl
           have hcz17_3 : wc.cell? ⟨gb251, 3, none⟩ = some (.int .i64 ((rd_T65 l0 x12_1).f3)) := (blk_cell BK251.out 3).trans rfl
           have hcz17_4 : wc.cell? ⟨gb251, 4, none⟩ = some (.int .i64 ((rd_T65 l0 x12_1).f4)) := (blk_cell BK251.out 4).trans rfl
           have hcz17_5 : wc.cell? ⟨gb251, 5, none⟩ = some (.int .i64 ((rd_T65 l0 x12_1).f5)) := (blk_cell BK251.out 5).trans rfl
           have hcz17_6 : wc.cell? ⟨gb251, 6, none⟩ = some (.int .i64 ((rd_T65 l0 x12_1).f6)) := (blk_cell BK251.out 6).trans rfl
           have hcz17_7 : wc.cell? ⟨gb251, 7, none⟩ = some (.slice A250_7 ((rd_T65 l0 x12_1).f7).length c250_7) := (blk_cell BK251.out 7).trans rfl
           have hfz17_0 := blk_frozen BK251.out 0
           have hfz17_1 := blk_frozen BK251.out 1
           have hfz17_2 := blk_frozen BK251.out 2
           have hfz17_3 := blk_frozen BK251.out 3
           have hfz17_4 := blk_frozen BK251.out 4
           have hfz17_5 := blk_frozen BK251.out 5
           have hfz17_6 := blk_frozen BK251.out 6
           have hfz17_7 := blk_frozen BK251.out 7
           go_wp2
           go_roundg kj8
           case measure => have := HK1.out; have := HJ8.out; omega
           case rel => exact ⟨(wrap64 (x7_1 + (wrap64 (((rd_T65 l0 x12_1).f1) * (wrap64 (a2 - ((rd_T65 l0 x12_1).f5))))))), (wrap64 (x12_1 + 1)), (by first | rfl | (simp; done) | (simp [*]; done)), (by first | rfl | (simp; done) | (simp [*]; done)), H', ⟨by have := HK1.out; have := HJ8.out; omega⟩, ⟨bA⟩⟩
          ·rw [if_neg c16] at H
           have c16b0 : (((rd_T65 l0 x12_1).f4) == 2) = false := beq_eq_false_iff_ne.mpr c16
           have c16b1 : (((rd_T65 l0 x12_1).f4) != 2) = true := bne_iff_ne.mpr c16
           have H' := Aside0.mk H
           clear H
           go_wp2
           go_roundg kj8
           case measure => have := HK1.out; have := HJ8.out; omega
           case rel => exact ⟨(x7_1), (wrap64 (x12_1 + 1)), (by first | rfl | (simp; done) | (simp [*]; done)), (by first | rfl | (simp; done) | (simp [*]; done)), H', ⟨by have := HK1.out; have := HJ8.out; omega⟩, ⟨bA⟩⟩
      ·replace c8 := Bool.eq_false_iff.mpr c8
       subst c8
       have H1 : (ledger_Raw.l0 k1 l1 a2 x7_1 l0 (l0.length : Int) (wrap64 (x12_1 + 1))) = some r := by rw [if_neg (show ¬ (false = true) by decide)] at H; exact H
       clear H
       have H := H1
       clear H1
       have H' := Aside0.mk H
       clear H
       have p250 : 0 ≤ (x12_1 : Int) := of_decide_eq_true (by first | (with_reducible assumption) | assumption)
       have q250 : x12_1 < (l0.length : Int) := of_decide_eq_true (by first | (with_reducible assumption) | assumption)
       obtain ⟨ad250, A250_7, c250_7, e250, hx250_0, hx250_1, hx250_2, hx250_3, hx250_4, hx250_5, hx250_6, hx250_7, hl250_7, hi250_7⟩ := at_T65 HR0.out x12_1 p250 q250
       cases e250
       replace hx250_0 := (HB.out.cell (World.block_lt_of_cell? w _ hx250_0)).trans hx250_0
       replace hx250_1 := (HB.out.cell (World.block_lt_of_cell? w _ hx250_1)).trans hx250_1
       replace hx250_2 := (HB.out.cell (World.block_lt_of_cell? w _ hx250_2)).trans hx250_2
       replace hx250_3 := (HB.out.cell (World.block_lt_of_cell? w _ hx250_3)).trans hx250_3
       replace hx250_4 := (HB.out.cell (World.block_lt_of_cell? w _ hx250_4)).trans hx250_4
       replace hx250_5 := (HB.out.cell (World.block_lt_of_cell? w _ hx250_5)).trans hx250_5
       replace hx250_6 := (HB.out.cell (World.block_lt_of_cell? w _ hx250_6)).trans hx250_6
       replace hx250_7 := (HB.out.cell (World.block_lt_of_cell? w _ hx250_7)).trans hx250_7
       have HR250_7 := Aside0.mk hi250_7
       have HC250_7 := Aside0.mk hl250_7
       clear hi250_7 hl250_7
       replace p250 := eq_true p250
       replace q250 := eq_true q250
       go_wp2_with (first | ((with_reducible refine gate_dst (N := 9) rfl ?_); refine bxA 9 #[.int .i64 0, .int .i64 0, .int .i64 0, .int .i64 0, .int .i64 0, .int .i64 0, .int .i64 0, .slice none 0 0] 65 ?_; intro gb251 hg w18 hbox hb; have n0_ := Aside0.mk (below_step bA hb); have n1_ := Aside0.mk (hbox); have n2_ := Aside0.mk (gwA hg bA); have n3_ := Aside0.mk (gwA hg bA); clear HB; have HB := n0_; have BK251 := n1_; have GW251 := n2_; have GE251 := n3_; clear n0_ n1_ n2_ n3_ hb hbox hg; have hcz19_0 : w18.cell? ⟨gb251, 0, none⟩ = some (.int .i64 0) := (blk_cell BK251.out 0).trans rfl; have hcz19_1 : w18.cell? ⟨gb251, 1, none⟩ = some (.int .i64 0) := (blk_cell BK251.out 1).trans rfl; have hcz19_2 : w18.cell? ⟨gb251, 2, none⟩ = some (.int .i64 0) := (blk_cell BK251.out 2).trans rfl; have hcz19_3 : w18.cell? ⟨gb251, 3, none⟩ = some (.int .i64 0) := (blk_cell BK251.out 3).trans rfl; have hcz19_4 : w18.cell? ⟨gb251, 4, none⟩ = some (.int .i64 0) := (blk_cell BK251.out 4).trans rfl; have hcz19_5 : w18.cell? ⟨gb251, 5, none⟩ = some (.int .i64 0) := (blk_cell BK251.out 5).trans rfl; have hcz19_6 : w18.cell? ⟨gb251, 6, none⟩ = some (.int .i64 0) := (blk_cell BK251.out 6).trans rfl; have hcz19_7 : w18.cell? ⟨gb251, 7, none⟩ = some (.slice none 0 0) := (blk_cell BK251.out 7).trans rfl; have hfz19_0 := blk_frozen BK251.out 0; have hfz19_1 := blk_frozen BK251.out 1; have hfz19_2 := blk_frozen BK251.out 2; have hfz19_3 := blk_frozen BK251.out 3; have hfz19_4 := blk_frozen BK251.out 4; have hfz19_5 := blk_frozen BK251.out 5; have hfz19_6 := blk_frozen BK251.out 6; have hfz19_7 := blk_frozen BK251.out 7) | ((with_reducible refine gate_callee (f := 50) rfl ?_); refine goesL_ (some 19) rfl rfl Tryd.func50 (by kernel_rfl) rfl #[.slice A1 l1.length c1, .int .i64 ((rd_T65 l0 x12_1).f0)] rfl aA ?_; (with_reducible refine (slices_Contains_int_int.calls k1 _ _ l1 ((rd_T65 l0 x12_1).f0) false _ ?side1 ?side2 A7.out).mono ?_); (case side1 => exact Kd.C_below HR1.out bA); (case side2 => exact HC1.out); rintro e w' ⟨rfl, ⟨nd, rfl⟩⟩; refine ⟨_, rfl, ?_⟩))
       go_roundg k1
       case measure => have := HK1.out; omega
       case rel => exact ⟨(x7_1), (wrap64 (x12_1 + 1)), (by first | rfl | (simp; done) | (simp [*]; done)), (by first | rfl | (simp; done) | (simp [*]; done)), H', ⟨by have := HK1.out; omega⟩, ⟨bA⟩⟩
     ·rw [if_neg c6] at H
      exact absurd H (by simp)
    ·rw [if_neg c5] at H
     exact absurd H (by simp)
   ·rw [if_neg c4] at H
    have c4b0 : decide (x12_1 < (l0.length : Int)) = false := decide_eq_false c4
    clear c4
    obtain rfl := Option.some.inj H
    go_wp2
    go_ret
    exact ⟨by first | rfl | (simp [errW_none, errW_some] <;> rfl) | (simp [*, errW_none, errW_some] <;> rfl), bA⟩

end Go.Proofs.YtgjjfnjnjnbfgaaDoor.GLG
