-- Laid by a program of this session (wip/tools/pr.py): contracts and pure functions; Lean checks it.
import Derived.Test.YtmgmggkebmgafaaDoorGKx0
import Derived.Test.YtmgmggkebmgafaaDoorGKx1
import Derived.Test.YtmgmggkebmgafaaDoorGKx2
import Derived.Test.YtmgmggkebmgafaaDoorGKx4
namespace Go.Proofs.YtmgmggkebmgafaaDoor.GK
open Go.RowKit Go.Proofs.YtmgmggkebmgafaaDoorW.PrintWords Go.Proofs.YtmgmggkebmgafaaDoorW.PrintLast Go.Proofs.YtmgmggkebmgafaaDoorW.PrintMore
attribute [local go_sem] max2_int min2_int max_two min_two max_three min_three max_four min_four   -- for this text's walks alone
set_option linter.unusedVariables false
set_option linter.unusedSimpArgs false

/-! ### backfillref10_Fades: function 31 -/
mutual
def backfillref10_Fades.l0 : Nat → Int → Int → Int → Int → Option (Int)
 | 0, _, _, _, _ => none
 | k + 1, x0, x1, x2, x7 => if x7 < x2 then (backfillref10_Fades.j1 k x0 x1 x2 x7 (decide (x7 < 65536))) else (backfillref10_Fades.j1 k x0 x1 x2 x7 false)
def backfillref10_Fades.j1 : Nat → Int → Int → Int → Int → Bool → Option (Int)
 | 0, _, _, _, _, _ => none
 | k + 1, x0, x1, x2, x7, x15 => if x15 = true then ((backfillref10_Fade.f k x0 x1).bind fun t241 => (if t241 = x0 then (some t241) else (backfillref10_Fades.l0 k t241 x1 x2 (wrap64 (x7 + 1))))) else (some x0)
end
def backfillref10_Fades.f (k : Nat) (a0 : Int) (a1 : Int) (a2 : Int) : Option (Int) := backfillref10_Fades.l0 k a0 a1 a2 0
theorem backfillref10_Fades.mono_l : ∀ k, (∀ y0 y1 y2 y3, LeO (backfillref10_Fades.l0 k y0 y1 y2 y3) (backfillref10_Fades.l0 (k + 1) y0 y1 y2 y3)) ∧ (∀ y0 y1 y2 y3 y4, LeO (backfillref10_Fades.j1 k y0 y1 y2 y3 y4) (backfillref10_Fades.j1 (k + 1) y0 y1 y2 y3 y4))
 | 0 => ⟨fun _ _ _ _ r h => by simp [backfillref10_Fades.l0] at h, fun _ _ _ _ _ r h => by simp [backfillref10_Fades.j1] at h⟩
 | k + 1 => by
  obtain ⟨ih0, ih1⟩ := backfillref10_Fades.mono_l k
  refine ⟨?_, ?_⟩
  ·intro y0 y1 y2 y3
   unfold backfillref10_Fades.l0
   repeat' first
   | (with_reducible exact ih0 _ _ _ _)
   | (with_reducible exact ih1 _ _ _ _ _)
   | (with_reducible exact backfillref10_Fade.mono _ _ _)
   | (with_reducible exact LeO.refl _)
   | (with_reducible exact LeO.none _)
   | (with_reducible refine LeO.ite ?_ ?_)
   | (with_reducible refine LeO.bind ?_ (fun _ => ?_))
   | exact ih0 _ _ _ _
   | exact ih1 _ _ _ _ _
   | exact backfillref10_Fade.mono _ _ _
   | exact LeO.none _
   | refine LeO.ite ?_ ?_
   | refine LeO.bind ?_ (fun _ => ?_)
  ·intro y0 y1 y2 y3 y4
   unfold backfillref10_Fades.j1
   repeat' first
   | (with_reducible exact ih0 _ _ _ _)
   | (with_reducible exact ih1 _ _ _ _ _)
   | (with_reducible exact backfillref10_Fade.mono _ _ _)
   | (with_reducible exact LeO.refl _)
   | (with_reducible exact LeO.none _)
   | (with_reducible refine LeO.ite ?_ ?_)
   | (with_reducible refine LeO.bind ?_ (fun _ => ?_))
   | exact ih0 _ _ _ _
   | exact ih1 _ _ _ _ _
   | exact backfillref10_Fade.mono _ _ _
   | exact LeO.none _
   | refine LeO.ite ?_ ?_
   | refine LeO.bind ?_ (fun _ => ?_)
theorem backfillref10_Fades.mono : ∀ a0 a1 a2 k, LeO (backfillref10_Fades.f k a0 a1 a2) (backfillref10_Fades.f (k + 1) a0 a1 a2) := by
 intro a0 a1 a2 k
 obtain ⟨ih0, ih1⟩ := backfillref10_Fades.mono_l k
 unfold backfillref10_Fades.f
 repeat' first
   | (with_reducible exact ih0 _ _ _ _)
   | (with_reducible exact ih1 _ _ _ _ _)
   | (with_reducible exact backfillref10_Fade.mono _ _ _)
   | (with_reducible exact LeO.refl _)
   | (with_reducible exact LeO.none _)
   | (with_reducible refine LeO.ite ?_ ?_)
   | (with_reducible refine LeO.bind ?_ (fun _ => ?_))
   | exact ih0 _ _ _ _
   | exact ih1 _ _ _ _ _
   | exact backfillref10_Fade.mono _ _ _
   | exact LeO.none _
   | refine LeO.ite ?_ ?_
   | refine LeO.bind ?_ (fun _ => ?_)
set_option maxHeartbeats 8000000 in
set_option maxRecDepth 100000 in
theorem backfillref10_Fades.calls (k : Nat) (a0 : Int) (a1 : Int) (a2 : Int) (r : Int) (w : World) (h : backfillref10_Fades.f k a0 a1 a2 = some r) :
  Calls Tryd.prog 31 #[.int .u64 a0, .int .u64 a1, .int .i64 a2] w fun e w' => e = .returned (.int .u64 r) ∧ Below w.heap.size w w' := by
 have HB := Aside0.mk (Below.refl w.heap.size w)
 have H : (backfillref10_Fades.l0 k a0 a1 a2 0) = some r := h
 clear h
 have H' := Aside0.mk H
 clear H
 go_enter Tryd.func31, Tryd.ntmps31
 go_wp2
 go_loopg [0, 7] k (fun kq v0 v7 w' => ∃ (x0_1 : Int) (x7_1 : Int), v0 = .int .u64 x0_1 ∧ v7 = .int .i64 x7_1 ∧ Aside0 (backfillref10_Fades.l0 kq x0_1 a1 a2 x7_1 = some r) ∧ Aside0 (kq ≤ k) ∧ Aside0 (Below w.heap.size w w'))
 case atStart => exact ⟨(a0), (0), (by first | rfl | (simp; done) | (simp [*]; done)), (by first | rfl | (simp; done) | (simp [*]; done)), H', ⟨Nat.le_refl _⟩, ⟨bA⟩⟩
 case round =>
  clear H'
  try clear p2
  try clear c3
  obtain ⟨x0_1, x7_1, rfl, rfl, HA, HK1, HB⟩ := hrel
  cases gk with
  | zero => exact absurd HA.out (by simp [backfillref10_Fades.l0])
  | succ k1 =>
   have H := HA.out
   clear HA
   simp only [backfillref10_Fades.l0] at H
   have HC4 := Aside0.mk H
   clear H
   go_upto_region 2 with (fail)
   go_cut [15] (fun v15 wc => ∃ (kq : Nat) (x15_3 : Bool), v15 = .bool x15_3 ∧ Aside0 (backfillref10_Fades.j1 kq x0_1 a1 a2 x7_1 x15_3 = some r) ∧ Aside0 (kq ≤ k1) ∧ Aside0 (Below w.heap.size w wc))
   case first =>
    have H := HC4.out
    clear HC4
    by_cases c5 : x7_1 < a2
    ·rw [if_pos c5] at H
     have c5b0 : decide (x7_1 < a2) = true := decide_eq_true c5
     clear c5
     (first | rw [c5b0] | (simp only [i64_w, i32_w]; rw [c5b0]) | skip)
     have H' := Aside0.mk H
     clear H
     go_wp2
     go_meet
     case rel => exact ⟨_, (decide (x7_1 < 65536)), (by first | rfl | (simp; done) | (simp [*]; done)), H', ⟨by have := HK1.out; first | omega | exact Nat.le_refl _⟩, ⟨bA⟩⟩
    ·rw [if_neg c5] at H
     have c5b0 : decide (x7_1 < a2) = false := decide_eq_false c5
     clear c5
     (first | rw [c5b0] | (simp only [i64_w, i32_w]; rw [c5b0]) | skip)
     have H' := Aside0.mk H
     clear H
     go_wp2
     go_meet
     case rel => exact ⟨_, (false), (by first | rfl | (simp; done) | (simp [*]; done)), H', ⟨by have := HK1.out; first | omega | exact Nat.le_refl _⟩, ⟨bA⟩⟩
   case rest =>
    clear HC4
    try clear p2
    try clear c3
    try clear c5
    try clear c5b0
    try clear p2
    obtain ⟨kq, x15_3, rfl, HA, HJ3, HB⟩ := hcut
    cases kq with
    | zero => exact absurd HA.out (by simp [backfillref10_Fades.j1])
    | succ kj3 =>
     have H := HA.out
     clear HA
     simp only [backfillref10_Fades.j1] at H
     by_cases c6 : x15_3 = true
     ·subst c6
      have H1 : ((backfillref10_Fade.f kj3 x0_1 a1).bind fun t241 => (if t241 = x0_1 then (some t241) else (backfillref10_Fades.l0 kj3 t241 a1 a2 (wrap64 (x7_1 + 1))))) = some r := by rw [if_pos rfl] at H; exact H
      clear H
      have H := H1
      clear H1; replace H := Option.bind_eq_some_iff.mp H; obtain ⟨t241, A70, H⟩ := H; replace H : (if t241 = x0_1 then (some t241) else (backfillref10_Fades.l0 kj3 t241 a1 a2 (wrap64 (x7_1 + 1)))) = some r := H; have A7 := Aside0.mk A70; clear A70
      by_cases c8 : t241 = x0_1
      ·rw [if_pos c8] at H
       have c8b0 : (t241 == x0_1) = true := beq_iff_eq.mpr c8
       have c8b1 : (t241 != x0_1) = false := bne_eq_false_iff_eq.mpr c8
       clear c8
       obtain rfl := Option.some.inj H
       go_wp2_with (first | ((with_reducible refine gate_callee (f := 29) rfl ?_); refine goesL_ (some 21) rfl rfl Tryd.func29 (by kernel_rfl) rfl #[.int .u64 x0_1, .int .u64 a1] rfl aA ?_; (with_reducible refine (backfillref10_Fade.calls kj3 x0_1 a1 t241 _ A7.out).mono ?_); rintro e w9 ⟨rfl, hb⟩; refine ⟨_, rfl, ?_⟩; have n0_ := Aside0.mk (below_step bA hb); clear HB; have HB := n0_; clear n0_; (try clear hb)))
       go_ret
       exact ⟨by first | rfl | (simp [errW_none, errW_some] <;> rfl) | (simp [*, errW_none, errW_some] <;> rfl), bA⟩
      ·rw [if_neg c8] at H
       have c8b0 : (t241 == x0_1) = false := beq_eq_false_iff_ne.mpr c8
       have c8b1 : (t241 != x0_1) = true := bne_iff_ne.mpr c8
       have H' := Aside0.mk H
       clear H
       go_wp2_with (first | ((with_reducible refine gate_callee (f := 29) rfl ?_); refine goesL_ (some 21) rfl rfl Tryd.func29 (by kernel_rfl) rfl #[.int .u64 x0_1, .int .u64 a1] rfl aA ?_; (with_reducible refine (backfillref10_Fade.calls kj3 x0_1 a1 t241 _ A7.out).mono ?_); rintro e w10 ⟨rfl, hb⟩; refine ⟨_, rfl, ?_⟩; have n0_ := Aside0.mk (below_step bA hb); clear HB; have HB := n0_; clear n0_; (try clear hb)))
       go_roundg kj3
       case measure => have := HK1.out; have := HJ3.out; omega
       case rel => exact ⟨(t241), (wrap64 (x7_1 + 1)), (by first | rfl | (simp; done) | (simp [*]; done)), (by first | rfl | (simp; done) | (simp [*]; done)), H', ⟨by have := HK1.out; have := HJ3.out; omega⟩, ⟨bA⟩⟩
     ·replace c6 := Bool.eq_false_iff.mpr c6
      subst c6
      have H1 : (some x0_1) = some r := by rw [if_neg (show ¬ (false = true) by decide)] at H; exact H
      clear H
      have H := H1
      clear H1
      obtain rfl := Option.some.inj H
      go_wp2
      go_ret
      exact ⟨by first | rfl | (simp [errW_none, errW_some] <;> rfl) | (simp [*, errW_none, errW_some] <;> rfl), bA⟩

/-! ### backfilllaw10_DecayFades: function 8 -/
mutual
def backfilllaw10_DecayFades.j0 : Nat → Int → Int → Int → Bool → Bool → Option (Bool)
 | 0, _, _, _, _, _ => none
 | k + 1, x0, x1, x2, x7, x21 => if x21 = true then (backfilllaw10_DecayFades.j1 k x0 x1 (Int.tmod x2 3000) x7) else (backfilllaw10_DecayFades.j1 k x0 x1 x2 x7)
def backfilllaw10_DecayFades.j1 : Nat → Int → Int → Int → Bool → Option (Bool)
 | 0, _, _, _, _ => none
 | k + 1, x0, x1, x2, x7 => backfilllaw10_DecayFades.l0 k x0 x1 x2 x7 x0 0
def backfilllaw10_DecayFades.l0 : Nat → Int → Int → Int → Bool → Int → Int → Option (Bool)
 | 0, _, _, _, _, _, _ => none
 | k + 1, x0, x1, x2, x7, x8, x9 => if x9 < x2 then (backfilllaw10_DecayFades.j3 k x0 x1 x2 x7 x8 x9 (decide (x9 < 65536))) else (backfilllaw10_DecayFades.j3 k x0 x1 x2 x7 x8 x9 false)
def backfilllaw10_DecayFades.j3 : Nat → Int → Int → Int → Bool → Int → Int → Bool → Option (Bool)
 | 0, _, _, _, _, _, _, _ => none
 | k + 1, x0, x1, x2, x7, x8, x9, x31 => if x31 = true then ((decay_Fade.f x8 x1).bind fun t243 => (if t243 = x8 then (if x7 = true then ((decay_Fades.f x0 x1 x2).bind fun t244 => (if t244 = t243 then ((backfillref10_Fades.f k x0 x1 x2).bind fun t245 => (some (t243 == t245))) else (none))) else (none)) else (backfilllaw10_DecayFades.l0 k x0 x1 x2 x7 t243 (wrap64 (x9 + 1))))) else (if x7 = true then ((decay_Fades.f x0 x1 x2).bind fun t246 => (if t246 = x8 then ((backfillref10_Fades.f k x0 x1 x2).bind fun t247 => (some (x8 == t247))) else (none))) else (none))
end
def backfilllaw10_DecayFades.f (k : Nat) (a0 : Int) (a1 : Int) (a2 : Int) : Option (Bool) := (backfilllaw10_shown.f).bind fun t242 => (if a2 > 3000 then (if a1 > 4611686018427387904 then (backfilllaw10_DecayFades.j0 k a0 a1 a2 t242 (decide (a1 < 9223372036854775808))) else (backfilllaw10_DecayFades.j0 k a0 a1 a2 t242 false)) else (backfilllaw10_DecayFades.j0 k a0 a1 a2 t242 false))
theorem backfilllaw10_DecayFades.mono_l : ∀ k, (∀ y0 y1 y2 y3 y4, LeO (backfilllaw10_DecayFades.j0 k y0 y1 y2 y3 y4) (backfilllaw10_DecayFades.j0 (k + 1) y0 y1 y2 y3 y4)) ∧ (∀ y0 y1 y2 y3, LeO (backfilllaw10_DecayFades.j1 k y0 y1 y2 y3) (backfilllaw10_DecayFades.j1 (k + 1) y0 y1 y2 y3)) ∧ (∀ y0 y1 y2 y3 y4 y5, LeO (backfilllaw10_DecayFades.l0 k y0 y1 y2 y3 y4 y5) (backfilllaw10_DecayFades.l0 (k + 1) y0 y1 y2 y3 y4 y5)) ∧ (∀ y0 y1 y2 y3 y4 y5 y6, LeO (backfilllaw10_DecayFades.j3 k y0 y1 y2 y3 y4 y5 y6) (backfilllaw10_DecayFades.j3 (k + 1) y0 y1 y2 y3 y4 y5 y6))
 | 0 => ⟨fun _ _ _ _ _ r h => by simp [backfilllaw10_DecayFades.j0] at h, fun _ _ _ _ r h => by simp [backfilllaw10_DecayFades.j1] at h, fun _ _ _ _ _ _ r h => by simp [backfilllaw10_DecayFades.l0] at h, fun _ _ _ _ _ _ _ r h => by simp [backfilllaw10_DecayFades.j3] at h⟩
 | k + 1 => by
  obtain ⟨ih0, ih1, ih2, ih3⟩ := backfilllaw10_DecayFades.mono_l k
  refine ⟨?_, ?_, ?_, ?_⟩
  ·intro y0 y1 y2 y3 y4
   unfold backfilllaw10_DecayFades.j0
   repeat' first
   | (with_reducible exact ih0 _ _ _ _ _)
   | (with_reducible exact ih1 _ _ _ _)
   | (with_reducible exact ih2 _ _ _ _ _ _)
   | (with_reducible exact ih3 _ _ _ _ _ _ _)
   | (with_reducible exact backfillref10_Fades.mono _ _ _ _)
   | (with_reducible exact LeO.refl _)
   | (with_reducible exact LeO.none _)
   | (with_reducible refine LeO.ite ?_ ?_)
   | (with_reducible refine LeO.bind ?_ (fun _ => ?_))
   | exact ih0 _ _ _ _ _
   | exact ih1 _ _ _ _
   | exact ih2 _ _ _ _ _ _
   | exact ih3 _ _ _ _ _ _ _
   | exact backfillref10_Fades.mono _ _ _ _
   | exact LeO.none _
   | refine LeO.ite ?_ ?_
   | refine LeO.bind ?_ (fun _ => ?_)
  ·intro y0 y1 y2 y3
   unfold backfilllaw10_DecayFades.j1
   repeat' first
   | (with_reducible exact ih0 _ _ _ _ _)
   | (with_reducible exact ih1 _ _ _ _)
   | (with_reducible exact ih2 _ _ _ _ _ _)
   | (with_reducible exact ih3 _ _ _ _ _ _ _)
   | (with_reducible exact backfillref10_Fades.mono _ _ _ _)
   | (with_reducible exact LeO.refl _)
   | (with_reducible exact LeO.none _)
   | (with_reducible refine LeO.ite ?_ ?_)
   | (with_reducible refine LeO.bind ?_ (fun _ => ?_))
   | exact ih0 _ _ _ _ _
   | exact ih1 _ _ _ _
   | exact ih2 _ _ _ _ _ _
   | exact ih3 _ _ _ _ _ _ _
   | exact backfillref10_Fades.mono _ _ _ _
   | exact LeO.none _
   | refine LeO.ite ?_ ?_
   | refine LeO.bind ?_ (fun _ => ?_)
  ·intro y0 y1 y2 y3 y4 y5
   unfold backfilllaw10_DecayFades.l0
   repeat' first
   | (with_reducible exact ih0 _ _ _ _ _)
   | (with_reducible exact ih1 _ _ _ _)
   | (with_reducible exact ih2 _ _ _ _ _ _)
   | (with_reducible exact ih3 _ _ _ _ _ _ _)
   | (with_reducible exact backfillref10_Fades.mono _ _ _ _)
   | (with_reducible exact LeO.refl _)
   | (with_reducible exact LeO.none _)
   | (with_reducible refine LeO.ite ?_ ?_)
   | (with_reducible refine LeO.bind ?_ (fun _ => ?_))
   | exact ih0 _ _ _ _ _
   | exact ih1 _ _ _ _
   | exact ih2 _ _ _ _ _ _
   | exact ih3 _ _ _ _ _ _ _
   | exact backfillref10_Fades.mono _ _ _ _
   | exact LeO.none _
   | refine LeO.ite ?_ ?_
   | refine LeO.bind ?_ (fun _ => ?_)
  ·intro y0 y1 y2 y3 y4 y5 y6
   unfold backfilllaw10_DecayFades.j3
   repeat' first
   | (with_reducible exact ih0 _ _ _ _ _)
   | (with_reducible exact ih1 _ _ _ _)
   | (with_reducible exact ih2 _ _ _ _ _ _)
   | (with_reducible exact ih3 _ _ _ _ _ _ _)
   | (with_reducible exact backfillref10_Fades.mono _ _ _ _)
   | (with_reducible exact LeO.refl _)
   | (with_reducible exact LeO.none _)
   | (with_reducible refine LeO.ite ?_ ?_)
   | (with_reducible refine LeO.bind ?_ (fun _ => ?_))
   | exact ih0 _ _ _ _ _
   | exact ih1 _ _ _ _
   | exact ih2 _ _ _ _ _ _
   | exact ih3 _ _ _ _ _ _ _
   | exact backfillref10_Fades.mono _ _ _ _
   | exact LeO.none _
   | refine LeO.ite ?_ ?_
   | refine LeO.bind ?_ (fun _ => ?_)
theorem backfilllaw10_DecayFades.mono : ∀ a0 a1 a2 k, LeO (backfilllaw10_DecayFades.f k a0 a1 a2) (backfilllaw10_DecayFades.f (k + 1) a0 a1 a2) := by
 intro a0 a1 a2 k
 obtain ⟨ih0, ih1, ih2, ih3⟩ := backfilllaw10_DecayFades.mono_l k
 unfold backfilllaw10_DecayFades.f
 repeat' first
   | (with_reducible exact ih0 _ _ _ _ _)
   | (with_reducible exact ih1 _ _ _ _)
   | (with_reducible exact ih2 _ _ _ _ _ _)
   | (with_reducible exact ih3 _ _ _ _ _ _ _)
   | (with_reducible exact backfillref10_Fades.mono _ _ _ _)
   | (with_reducible exact LeO.refl _)
   | (with_reducible exact LeO.none _)
   | (with_reducible refine LeO.ite ?_ ?_)
   | (with_reducible refine LeO.bind ?_ (fun _ => ?_))
   | exact ih0 _ _ _ _ _
   | exact ih1 _ _ _ _
   | exact ih2 _ _ _ _ _ _
   | exact ih3 _ _ _ _ _ _ _
   | exact backfillref10_Fades.mono _ _ _ _
   | exact LeO.none _
   | refine LeO.ite ?_ ?_
   | refine LeO.bind ?_ (fun _ => ?_)
set_option maxHeartbeats 8000000 in
set_option maxRecDepth 100000 in
theorem backfilllaw10_DecayFades.calls (k : Nat) (a0 : Int) (a1 : Int) (a2 : Int) (r : Bool) (w : World) (hL : LaidW w) (h : backfilllaw10_DecayFades.f k a0 a1 a2 = some r) :
  Calls Tryd.prog 8 #[.int .u64 a0, .int .u64 a1, .int .i64 a2] w fun e w' => e = .returned (.bool r) ∧ Below w.heap.size w w' := by
 have HB := Aside0.mk (Below.refl w.heap.size w)
 have H : ((backfilllaw10_shown.f).bind fun t242 => (if a2 > 3000 then (if a1 > 4611686018427387904 then (backfilllaw10_DecayFades.j0 k a0 a1 a2 t242 (decide (a1 < 9223372036854775808))) else (backfilllaw10_DecayFades.j0 k a0 a1 a2 t242 false)) else (backfilllaw10_DecayFades.j0 k a0 a1 a2 t242 false))) = some r := h
 clear h; replace H := Option.bind_eq_some_iff.mp H; obtain ⟨t242, A40, H⟩ := H; replace H : (if a2 > 3000 then (if a1 > 4611686018427387904 then (backfilllaw10_DecayFades.j0 k a0 a1 a2 t242 (decide (a1 < 9223372036854775808))) else (backfilllaw10_DecayFades.j0 k a0 a1 a2 t242 false)) else (backfilllaw10_DecayFades.j0 k a0 a1 a2 t242 false)) = some r := H; have A4 := Aside0.mk A40; clear A40
 have HC5 := Aside0.mk H
 clear H
 go_enter Tryd.func8, Tryd.ntmps8
 go_upto_region 2 with (first | ((with_reducible refine gate_callee (f := 23) rfl ?_); refine goesL_ (some 11) rfl rfl Tryd.func23 (by kernel_rfl) rfl #[] rfl aA ?_; (with_reducible refine (backfilllaw10_shown.calls  t242 _ ?side1 A4.out).mono ?_); (case side1 => exact laid_below hL bA); rintro e w6 ⟨rfl, hb⟩; refine ⟨_, rfl, ?_⟩; have n0_ := Aside0.mk (below_step bA hb); clear HB; have HB := n0_; clear n0_; (try clear hb)))
 (try simp only [Act.put, List.setIfInBounds_toArray, List.set_cons_zero, List.set_cons_succ])
 go_cut [21] (fun v21 wc => ∃ (kq : Nat) (x21_4 : Bool), v21 = .bool x21_4 ∧ Aside0 (backfilllaw10_DecayFades.j0 kq a0 a1 a2 t242 x21_4 = some r) ∧ Aside0 (kq ≤ k) ∧ Aside0 (Below w.heap.size w wc))
 case first =>
  have H := HC5.out
  clear HC5
  by_cases c7 : a2 > 3000
  ·rw [if_pos c7] at H
   have c7b0 : decide (3000 < a2) = true := decide_eq_true c7
   clear c7
   (first | rw [c7b0] | (simp only [i64_w, i32_w]; rw [c7b0]) | skip)
   by_cases c8 : a1 > 4611686018427387904
   ·rw [if_pos c8] at H
    have c8b0 : decide (4611686018427387904 < a1) = true := decide_eq_true c8
    clear c8
    have H' := Aside0.mk H
    clear H
    go_wp2
    go_meet
    case rel => exact ⟨_, (decide (a1 < 9223372036854775808)), (by first | rfl | (simp; done) | (simp [*]; done)), H', ⟨by first | omega | exact Nat.le_refl _⟩, ⟨bA⟩⟩
   ·rw [if_neg c8] at H
    have c8b0 : decide (4611686018427387904 < a1) = false := decide_eq_false c8
    clear c8
    have H' := Aside0.mk H
    clear H
    go_wp2
    go_meet
    case rel => exact ⟨_, (false), (by first | rfl | (simp; done) | (simp [*]; done)), H', ⟨by first | omega | exact Nat.le_refl _⟩, ⟨bA⟩⟩
  ·rw [if_neg c7] at H
   have c7b0 : decide (3000 < a2) = false := decide_eq_false c7
   clear c7
   (first | rw [c7b0] | (simp only [i64_w, i32_w]; rw [c7b0]) | skip)
   have H' := Aside0.mk H
   clear H
   go_wp2
   go_meet
   case rel => exact ⟨_, (false), (by first | rfl | (simp; done) | (simp [*]; done)), H', ⟨by first | omega | exact Nat.le_refl _⟩, ⟨bA⟩⟩
 case rest =>
  clear HC5
  try clear c2
  try clear p2
  try clear c7
  try clear c7b0
  try clear c8
  try clear c8b0
  obtain ⟨kq, x21_4, rfl, HA, HJ4, HB⟩ := hcut
  cases kq with
  | zero => exact absurd HA.out (by simp [backfilllaw10_DecayFades.j0])
  | succ kj4 =>
   have H := HA.out
   clear HA
   simp only [backfilllaw10_DecayFades.j0] at H
   have HC9 := Aside0.mk H
   clear H
   go_upto_if 21 with (fail)
   go_cut [2] (fun v2 wc => ∃ (kq : Nat) (x2_8 : Int), v2 = .int .i64 x2_8 ∧ Aside0 (backfilllaw10_DecayFades.j1 kq a0 a1 x2_8 t242 = some r) ∧ Aside0 (kq ≤ kj4) ∧ Aside0 (Below w.heap.size w wc))
   case first =>
    have H := HC9.out
    clear HC9
    by_cases c10 : x21_4 = true
    ·subst c10
     have H1 : (backfilllaw10_DecayFades.j1 kj4 a0 a1 (Int.tmod a2 3000) t242) = some r := by rw [if_pos rfl] at H; exact H
     clear H
     have H := H1
     clear H1
     have H' := Aside0.mk H
     clear H
     go_wp2
     go_meet
     case rel => exact ⟨_, (Int.tmod a2 3000), (by first | rfl | (simp; done) | (simp [*]; done)), H', ⟨by have := HJ4.out; first | omega | exact Nat.le_refl _⟩, ⟨bA⟩⟩
    ·replace c10 := Bool.eq_false_iff.mpr c10
     subst c10
     have H1 : (backfilllaw10_DecayFades.j1 kj4 a0 a1 a2 t242) = some r := by rw [if_neg (show ¬ (false = true) by decide)] at H; exact H
     clear H
     have H := H1
     clear H1
     have H' := Aside0.mk H
     clear H
     go_wp2
     go_meet
     case rel => exact ⟨_, (a2), (by first | rfl | (simp; done) | (simp [*]; done)), H', ⟨by have := HJ4.out; first | omega | exact Nat.le_refl _⟩, ⟨bA⟩⟩
   case rest =>
    clear HC9
    try clear c1
    try clear c2
    try clear p2
    try clear c7
    try clear c7b0
    try clear c8
    try clear c8b0
    try clear c10
    try clear p2
    obtain ⟨kq, x2_8, rfl, HA, HJ8, HB⟩ := hcut
    cases kq with
    | zero => exact absurd HA.out (by simp [backfilllaw10_DecayFades.j1])
    | succ kj8 =>
     have H := HA.out
     clear HA
     simp only [backfilllaw10_DecayFades.j1] at H
     have H' := Aside0.mk H
     clear H
     go_wp2
     go_loopg [8, 9] kj8 (fun kq v8 v9 w' => ∃ (x8_3 : Int) (x9_3 : Int), v8 = .int .u64 x8_3 ∧ v9 = .int .i64 x9_3 ∧ Aside0 (backfilllaw10_DecayFades.l0 kq a0 a1 x2_8 t242 x8_3 x9_3 = some r) ∧ Aside0 (kq ≤ kj8) ∧ Aside0 (Below w.heap.size w w'))
     case atStart => exact ⟨(a0), (0), (by first | rfl | (simp; done) | (simp [*]; done)), (by first | rfl | (simp; done) | (simp [*]; done)), H', ⟨Nat.le_refl _⟩, ⟨bA⟩⟩
     case round =>
      clear H'
      try clear c1
      try clear c2
      try clear p2
      try clear c7
      try clear c7b0
      try clear c8
      try clear c8b0
      try clear c10
      try clear p2
      obtain ⟨x8_3, x9_3, rfl, rfl, HA, HK3, HB⟩ := hrel
      cases gk with
      | zero => exact absurd HA.out (by simp [backfilllaw10_DecayFades.l0])
      | succ k3 =>
       have H := HA.out
       clear HA
       simp only [backfilllaw10_DecayFades.l0] at H
       have HC11 := Aside0.mk H
       clear H
       go_upto_region 6 with (fail)
       go_cut [31] (fun v31 wc => ∃ (kq : Nat) (x31_10 : Bool), v31 = .bool x31_10 ∧ Aside0 (backfilllaw10_DecayFades.j3 kq a0 a1 x2_8 t242 x8_3 x9_3 x31_10 = some r) ∧ Aside0 (kq ≤ k3) ∧ Aside0 (Below w.heap.size w wc))
       case first =>
        have H := HC11.out
        clear HC11
        by_cases c12 : x9_3 < x2_8
        ·rw [if_pos c12] at H
         have c12b0 : decide (x9_3 < x2_8) = true := decide_eq_true c12
         clear c12
         (first | rw [c12b0] | (simp only [i64_w, i32_w]; rw [c12b0]) | skip)
         have H' := Aside0.mk H
         clear H
         go_wp2
         go_meet
         case rel => exact ⟨_, (decide (x9_3 < 65536)), (by first | rfl | (simp; done) | (simp [*]; done)), H', ⟨by have := HJ4.out; have := HJ8.out; have := HK3.out; first | omega | exact Nat.le_refl _⟩, ⟨bA⟩⟩
        ·rw [if_neg c12] at H
         have c12b0 : decide (x9_3 < x2_8) = false := decide_eq_false c12
         clear c12
         (first | rw [c12b0] | (simp only [i64_w, i32_w]; rw [c12b0]) | skip)
         have H' := Aside0.mk H
         clear H
         go_wp2
         go_meet
         case rel => exact ⟨_, (false), (by first | rfl | (simp; done) | (simp [*]; done)), H', ⟨by have := HJ4.out; have := HJ8.out; have := HK3.out; first | omega | exact Nat.le_refl _⟩, ⟨bA⟩⟩
       case rest =>
        clear HC11
        try clear c1
        try clear c2
        try clear p2
        try clear c7
        try clear c7b0
        try clear c8
        try clear c8b0
        try clear c10
        try clear c12
        try clear c12b0
        try clear p2
        obtain ⟨kq, x31_10, rfl, HA, HJ10, HB⟩ := hcut
        cases kq with
        | zero => exact absurd HA.out (by simp [backfilllaw10_DecayFades.j3])
        | succ kj10 =>
         have H := HA.out
         clear HA
         simp only [backfilllaw10_DecayFades.j3] at H
         by_cases c13 : x31_10 = true
         ·subst c13
          have H1 : ((decay_Fade.f x8_3 a1).bind fun t243 => (if t243 = x8_3 then (if t242 = true then ((decay_Fades.f a0 a1 x2_8).bind fun t244 => (if t244 = t243 then ((backfillref10_Fades.f kj10 a0 a1 x2_8).bind fun t245 => (some (t243 == t245))) else (none))) else (none)) else (backfilllaw10_DecayFades.l0 kj10 a0 a1 x2_8 t242 t243 (wrap64 (x9_3 + 1))))) = some r := by rw [if_pos rfl] at H; exact H
          clear H
          have H := H1
          clear H1; replace H := Option.bind_eq_some_iff.mp H; obtain ⟨t243, A140, H⟩ := H; replace H : (if t243 = x8_3 then (if t242 = true then ((decay_Fades.f a0 a1 x2_8).bind fun t244 => (if t244 = t243 then ((backfillref10_Fades.f kj10 a0 a1 x2_8).bind fun t245 => (some (t243 == t245))) else (none))) else (none)) else (backfilllaw10_DecayFades.l0 kj10 a0 a1 x2_8 t242 t243 (wrap64 (x9_3 + 1)))) = some r := H; have A14 := Aside0.mk A140; clear A140
          by_cases c15 : t243 = x8_3
          ·rw [if_pos c15] at H
           have c15b0 : (t243 == x8_3) = true := beq_iff_eq.mpr c15
           have c15b1 : (t243 != x8_3) = false := bne_eq_false_iff_eq.mpr c15
           clear c15
           by_cases c16 : t242 = true
           ·subst c16
            have H1 : ((decay_Fades.f a0 a1 x2_8).bind fun t244 => (if t244 = t243 then ((backfillref10_Fades.f kj10 a0 a1 x2_8).bind fun t245 => (some (t243 == t245))) else (none))) = some r := by rw [if_pos rfl] at H; exact H
            clear H
            have H := H1
            clear H1; replace H := Option.bind_eq_some_iff.mp H; obtain ⟨t244, A170, H⟩ := H; replace H : (if t244 = t243 then ((backfillref10_Fades.f kj10 a0 a1 x2_8).bind fun t245 => (some (t243 == t245))) else (none)) = some r := H; have A17 := Aside0.mk A170; clear A170
            by_cases c18 : t244 = t243
            ·rw [if_pos c18] at H
             have c18b0 : (t244 == t243) = true := beq_iff_eq.mpr c18
             have c18b1 : (t244 != t243) = false := bne_eq_false_iff_eq.mpr c18
             clear c18; replace H := Option.bind_eq_some_iff.mp H; obtain ⟨t245, A190, H⟩ := H; replace H : (some (t243 == t245)) = some r := H; have A19 := Aside0.mk A190; clear A190
             obtain rfl := Option.some.inj H
             go_wp2_with (first | ((with_reducible refine gate_callee (f := 28) rfl ?_); refine goesL_ (some 37) rfl rfl Tryd.func28 (by kernel_rfl) rfl #[.int .u64 x8_3, .int .u64 a1] rfl aA ?_; (with_reducible refine (decay_Fade.calls x8_3 a1 t243 _ A14.out).mono ?_); rintro e w20 ⟨rfl, hb⟩; refine ⟨_, rfl, ?_⟩; have n0_ := Aside0.mk (below_step bA hb); clear HB; have HB := n0_; clear n0_; (try clear hb)) | (go_at_call 30; (with_reducible refine (decay_Fades.calls a0 a1 x2_8 t244 _ A17.out).mono ?_); rintro e w21 ⟨rfl, hb⟩; have n0_ := Aside0.mk (below_step bA hb); clear HB; have HB := n0_; clear n0_; (try clear hb)) | (go_at_call 31; (with_reducible refine (backfillref10_Fades.calls kj10 a0 a1 x2_8 t245 _ A19.out).mono ?_); rintro e w22 ⟨rfl, hb⟩; have n0_ := Aside0.mk (below_step bA hb); clear HB; have HB := n0_; clear n0_; (try clear hb)))
             go_ret
             exact ⟨by first | rfl | (simp [errW_none, errW_some] <;> rfl) | (simp [*, errW_none, errW_some] <;> rfl), bA⟩
            ·rw [if_neg c18] at H
             exact absurd H (by simp)
           ·replace c16 := Bool.eq_false_iff.mpr c16
            subst c16
            have H1 : (none) = some r := by rw [if_neg (show ¬ (false = true) by decide)] at H; exact H
            clear H
            have H := H1
            clear H1
            exact absurd H (by simp)
          ·rw [if_neg c15] at H
           have c15b0 : (t243 == x8_3) = false := beq_eq_false_iff_ne.mpr c15
           have c15b1 : (t243 != x8_3) = true := bne_iff_ne.mpr c15
           have H' := Aside0.mk H
           clear H
           go_wp2_with (first | ((with_reducible refine gate_callee (f := 28) rfl ?_); refine goesL_ (some 37) rfl rfl Tryd.func28 (by kernel_rfl) rfl #[.int .u64 x8_3, .int .u64 a1] rfl aA ?_; (with_reducible refine (decay_Fade.calls x8_3 a1 t243 _ A14.out).mono ?_); rintro e w23 ⟨rfl, hb⟩; refine ⟨_, rfl, ?_⟩; have n0_ := Aside0.mk (below_step bA hb); clear HB; have HB := n0_; clear n0_; (try clear hb)))
           go_roundg kj10
           case measure => have := HJ4.out; have := HJ8.out; have := HK3.out; have := HJ10.out; omega
           case rel => exact ⟨(t243), (wrap64 (x9_3 + 1)), (by first | rfl | (simp; done) | (simp [*]; done)), (by first | rfl | (simp; done) | (simp [*]; done)), H', ⟨by have := HJ4.out; have := HJ8.out; have := HK3.out; have := HJ10.out; omega⟩, ⟨bA⟩⟩
         ·replace c13 := Bool.eq_false_iff.mpr c13
          subst c13
          have H1 : (if t242 = true then ((decay_Fades.f a0 a1 x2_8).bind fun t246 => (if t246 = x8_3 then ((backfillref10_Fades.f kj10 a0 a1 x2_8).bind fun t247 => (some (x8_3 == t247))) else (none))) else (none)) = some r := by rw [if_neg (show ¬ (false = true) by decide)] at H; exact H
          clear H
          have H := H1
          clear H1
          by_cases c24 : t242 = true
          ·subst c24
           have H1 : ((decay_Fades.f a0 a1 x2_8).bind fun t246 => (if t246 = x8_3 then ((backfillref10_Fades.f kj10 a0 a1 x2_8).bind fun t247 => (some (x8_3 == t247))) else (none))) = some r := by rw [if_pos rfl] at H; exact H
           clear H
           have H := H1
           clear H1; replace H := Option.bind_eq_some_iff.mp H; obtain ⟨t246, A250, H⟩ := H; replace H : (if t246 = x8_3 then ((backfillref10_Fades.f kj10 a0 a1 x2_8).bind fun t247 => (some (x8_3 == t247))) else (none)) = some r := H; have A25 := Aside0.mk A250; clear A250
           by_cases c26 : t246 = x8_3
           ·rw [if_pos c26] at H
            have c26b0 : (t246 == x8_3) = true := beq_iff_eq.mpr c26
            have c26b1 : (t246 != x8_3) = false := bne_eq_false_iff_eq.mpr c26
            clear c26; replace H := Option.bind_eq_some_iff.mp H; obtain ⟨t247, A270, H⟩ := H; replace H : (some (x8_3 == t247)) = some r := H; have A27 := Aside0.mk A270; clear A270
            obtain rfl := Option.some.inj H
            go_wp2_with (first | (go_at_call 30; (with_reducible refine (decay_Fades.calls a0 a1 x2_8 t246 _ A25.out).mono ?_); rintro e w28 ⟨rfl, hb⟩; have n0_ := Aside0.mk (below_step bA hb); clear HB; have HB := n0_; clear n0_; (try clear hb)) | (go_at_call 31; (with_reducible refine (backfillref10_Fades.calls kj10 a0 a1 x2_8 t247 _ A27.out).mono ?_); rintro e w29 ⟨rfl, hb⟩; have n0_ := Aside0.mk (below_step bA hb); clear HB; have HB := n0_; clear n0_; (try clear hb)))
            go_ret
            exact ⟨by first | rfl | (simp [errW_none, errW_some] <;> rfl) | (simp [*, errW_none, errW_some] <;> rfl), bA⟩
           ·rw [if_neg c26] at H
            exact absurd H (by simp)
          ·replace c24 := Bool.eq_false_iff.mpr c24
           subst c24
           have H1 : (none) = some r := by rw [if_neg (show ¬ (false = true) by decide)] at H; exact H
           clear H
           have H := H1
           clear H1
           exact absurd H (by simp)

/-- THE ONE PURE STATEMENT of backfilllaw10_DecayFades: yours. -/
def backfilllaw10_DecayFades.Pure : Prop := ∀ (a0 : Int) (a1 : Int) (a2 : Int), (Lit.int .u64 a0).wf = true → (Lit.int .u64 a1).wf = true → (Lit.int .i64 a2).wf = true → ∃ k, backfilllaw10_DecayFades.f k a0 a1 a2 = some true
theorem backfilllaw10_DecayFades.walk (P : backfilllaw10_DecayFades.Pure) (a0 : Int) (a1 : Int) (a2 : Int) (w : World) (hL : LaidW w) (w0 : (Lit.int .u64 a0).wf = true) (w1 : (Lit.int .u64 a1).wf = true) (w2 : (Lit.int .i64 a2).wf = true) :
  Calls Tryd.prog 8 #[.int .u64 a0, .int .u64 a1, .int .i64 a2] w fun e w' => e = .returned (.bool true) ∧ Below w.heap.size w w' := by
 obtain ⟨k, h⟩ := P a0 a1 a2 w0 w1 w2
 refine (backfilllaw10_DecayFades.calls k a0 a1 a2 true w hL h).mono ?_
 rintro e w' ⟨rfl, hd⟩
 exact ⟨rfl, hd⟩

/-! ### backfilllaw10_DecayLaws: function 9 -/
mutual
def backfilllaw10_DecayLaws.j0 : Nat → Int → Int → Int → Int → Bool → Option (Bool)
 | 0, _, _, _, _, _ => none
 | k + 1, x0, x1, x2, x3, x9 => (decay_Fade.f x0 x2).bind fun t249 => ((decay_Fade.f x1 x2).bind fun t250 => (if t249 > x0 then (backfilllaw10_DecayLaws.j1 k x0 x1 x2 x9 t249 t250 true) else ((decay_Fade.f x0 x3).bind fun t251 => (if t249 > t251 then (backfilllaw10_DecayLaws.j1 k x0 x1 x2 x9 t249 t250 true) else (if x0 ≤ x1 then (if t249 > t250 then (backfilllaw10_DecayLaws.j1 k x0 x1 x2 x9 t249 t250 true) else (if x1 ≤ x0 then (backfilllaw10_DecayLaws.j1 k x0 x1 x2 x9 t249 t250 (decide (t250 > t249))) else (backfilllaw10_DecayLaws.j1 k x0 x1 x2 x9 t249 t250 false))) else (if x1 ≤ x0 then (backfilllaw10_DecayLaws.j1 k x0 x1 x2 x9 t249 t250 (decide (t250 > t249))) else (backfilllaw10_DecayLaws.j1 k x0 x1 x2 x9 t249 t250 false)))))))
def backfilllaw10_DecayLaws.j1 : Nat → Int → Int → Int → Bool → Int → Int → Bool → Option (Bool)
 | 0, _, _, _, _, _, _, _ => none
 | k + 1, x0, x1, x2, x9, x11, x12, x56 => if x56 = true then (none) else (if x0 > (IntKind.u64.wrap (18446744073709551615 - x1)) then (some x9) else ((decay_Fade.f (IntKind.u64.wrap (x0 + x1)) x2).bind fun t252 => (if x9 = true then (if t252 = (IntKind.u64.wrap (x11 + x12)) then (some true) else (some (t252 == (IntKind.u64.wrap ((IntKind.u64.wrap (x11 + x12)) + 1))))) else (none))))
end
def backfilllaw10_DecayLaws.f (k : Nat) (a0 : Int) (a1 : Int) (a2 : Int) (a3 : Int) : Option (Bool) := (backfilllaw10_shown.f).bind fun t248 => (if a2 > a3 then (backfilllaw10_DecayLaws.j0 k a0 a1 a3 a2 t248) else (backfilllaw10_DecayLaws.j0 k a0 a1 a2 a3 t248))
theorem backfilllaw10_DecayLaws.mono_l : ∀ k, (∀ y0 y1 y2 y3 y4, LeO (backfilllaw10_DecayLaws.j0 k y0 y1 y2 y3 y4) (backfilllaw10_DecayLaws.j0 (k + 1) y0 y1 y2 y3 y4)) ∧ (∀ y0 y1 y2 y3 y4 y5 y6, LeO (backfilllaw10_DecayLaws.j1 k y0 y1 y2 y3 y4 y5 y6) (backfilllaw10_DecayLaws.j1 (k + 1) y0 y1 y2 y3 y4 y5 y6))
 | 0 => ⟨fun _ _ _ _ _ r h => by simp [backfilllaw10_DecayLaws.j0] at h, fun _ _ _ _ _ _ _ r h => by simp [backfilllaw10_DecayLaws.j1] at h⟩
 | k + 1 => by
  obtain ⟨ih0, ih1⟩ := backfilllaw10_DecayLaws.mono_l k
  refine ⟨?_, ?_⟩
  ·intro y0 y1 y2 y3 y4
   unfold backfilllaw10_DecayLaws.j0
   repeat' first
   | (with_reducible exact ih0 _ _ _ _ _)
   | (with_reducible exact ih1 _ _ _ _ _ _ _)
   | (with_reducible exact LeO.refl _)
   | (with_reducible exact LeO.none _)
   | (with_reducible refine LeO.ite ?_ ?_)
   | (with_reducible refine LeO.bind ?_ (fun _ => ?_))
   | exact ih0 _ _ _ _ _
   | exact ih1 _ _ _ _ _ _ _
   | exact LeO.none _
   | refine LeO.ite ?_ ?_
   | refine LeO.bind ?_ (fun _ => ?_)
  ·intro y0 y1 y2 y3 y4 y5 y6
   unfold backfilllaw10_DecayLaws.j1
   repeat' first
   | (with_reducible exact ih0 _ _ _ _ _)
   | (with_reducible exact ih1 _ _ _ _ _ _ _)
   | (with_reducible exact LeO.refl _)
   | (with_reducible exact LeO.none _)
   | (with_reducible refine LeO.ite ?_ ?_)
   | (with_reducible refine LeO.bind ?_ (fun _ => ?_))
   | exact ih0 _ _ _ _ _
   | exact ih1 _ _ _ _ _ _ _
   | exact LeO.none _
   | refine LeO.ite ?_ ?_
   | refine LeO.bind ?_ (fun _ => ?_)
theorem backfilllaw10_DecayLaws.mono : ∀ a0 a1 a2 a3 k, LeO (backfilllaw10_DecayLaws.f k a0 a1 a2 a3) (backfilllaw10_DecayLaws.f (k + 1) a0 a1 a2 a3) := by
 intro a0 a1 a2 a3 k
 obtain ⟨ih0, ih1⟩ := backfilllaw10_DecayLaws.mono_l k
 unfold backfilllaw10_DecayLaws.f
 repeat' first
   | (with_reducible exact ih0 _ _ _ _ _)
   | (with_reducible exact ih1 _ _ _ _ _ _ _)
   | (with_reducible exact LeO.refl _)
   | (with_reducible exact LeO.none _)
   | (with_reducible refine LeO.ite ?_ ?_)
   | (with_reducible refine LeO.bind ?_ (fun _ => ?_))
   | exact ih0 _ _ _ _ _
   | exact ih1 _ _ _ _ _ _ _
   | exact LeO.none _
   | refine LeO.ite ?_ ?_
   | refine LeO.bind ?_ (fun _ => ?_)
set_option maxHeartbeats 8000000 in
set_option maxRecDepth 100000 in
theorem backfilllaw10_DecayLaws.calls (k : Nat) (a0 : Int) (a1 : Int) (a2 : Int) (a3 : Int) (r : Bool) (w : World) (hL : LaidW w) (h : backfilllaw10_DecayLaws.f k a0 a1 a2 a3 = some r) :
  Calls Tryd.prog 9 #[.int .u64 a0, .int .u64 a1, .int .u64 a2, .int .u64 a3] w fun e w' => e = .returned (.bool r) ∧ Below w.heap.size w w' := by
 have HB := Aside0.mk (Below.refl w.heap.size w)
 have H : ((backfilllaw10_shown.f).bind fun t248 => (if a2 > a3 then (backfilllaw10_DecayLaws.j0 k a0 a1 a3 a2 t248) else (backfilllaw10_DecayLaws.j0 k a0 a1 a2 a3 t248))) = some r := h
 clear h; replace H := Option.bind_eq_some_iff.mp H; obtain ⟨t248, A50, H⟩ := H; replace H : (if a2 > a3 then (backfilllaw10_DecayLaws.j0 k a0 a1 a3 a2 t248) else (backfilllaw10_DecayLaws.j0 k a0 a1 a2 a3 t248)) = some r := H; have A5 := Aside0.mk A50; clear A50
 have HC6 := Aside0.mk H
 clear H
 go_enter Tryd.func9, Tryd.ntmps9
 go_upto_if 17 with (first | ((with_reducible refine gate_callee (f := 23) rfl ?_); refine goesL_ (some 14) rfl rfl Tryd.func23 (by kernel_rfl) rfl #[] rfl aA ?_; (with_reducible refine (backfilllaw10_shown.calls  t248 _ ?side1 A5.out).mono ?_); (case side1 => exact laid_below hL bA); rintro e w7 ⟨rfl, hb⟩; refine ⟨_, rfl, ?_⟩; have n0_ := Aside0.mk (below_step bA hb); clear HB; have HB := n0_; clear n0_; (try clear hb)))
 (try simp only [Act.put, List.setIfInBounds_toArray, List.set_cons_zero, List.set_cons_succ])
 go_cut [2, 3] (fun v2 v3 wc => ∃ (kq : Nat) (x2_5 : Int) (x3_5 : Int), v2 = .int .u64 x2_5 ∧ v3 = .int .u64 x3_5 ∧ Aside0 (backfilllaw10_DecayLaws.j0 kq a0 a1 x2_5 x3_5 t248 = some r) ∧ Aside0 (kq ≤ k) ∧ Aside0 (Below w.heap.size w wc))
 case first =>
  have H := HC6.out
  clear HC6
  by_cases c8 : a2 > a3
  ·rw [if_pos c8] at H
   have c8b0 : decide (a3 < a2) = true := decide_eq_true c8
   clear c8
   (first | rw [c8b0] | (simp only [i64_w, i32_w]; rw [c8b0]) | skip)
   have H' := Aside0.mk H
   clear H
   go_wp2
   go_meet
   case rel => exact ⟨_, (a3), (a2), (by first | rfl | (simp; done) | (simp [*]; done)), (by first | rfl | (simp; done) | (simp [*]; done)), H', ⟨by first | omega | exact Nat.le_refl _⟩, ⟨bA⟩⟩
  ·rw [if_neg c8] at H
   have c8b0 : decide (a3 < a2) = false := decide_eq_false c8
   clear c8
   (first | rw [c8b0] | (simp only [i64_w, i32_w]; rw [c8b0]) | skip)
   have H' := Aside0.mk H
   clear H
   go_wp2
   go_meet
   case rel => exact ⟨_, (a2), (a3), (by first | rfl | (simp; done) | (simp [*]; done)), (by first | rfl | (simp; done) | (simp [*]; done)), H', ⟨by first | omega | exact Nat.le_refl _⟩, ⟨bA⟩⟩
 case rest =>
  clear HC6
  try clear c2
  try clear p2
  try clear c8
  try clear c8b0
  obtain ⟨kq, x2_5, x3_5, rfl, rfl, HA, HJ5, HB⟩ := hcut
  cases kq with
  | zero => exact absurd HA.out (by simp [backfilllaw10_DecayLaws.j0])
  | succ kj5 =>
   have H := HA.out
   clear HA
   simp only [backfilllaw10_DecayLaws.j0] at H
   replace H := Option.bind_eq_some_iff.mp H; obtain ⟨t249, A90, H⟩ := H; replace H : ((decay_Fade.f a1 x2_5).bind fun t250 => (if t249 > a0 then (backfilllaw10_DecayLaws.j1 kj5 a0 a1 x2_5 t248 t249 t250 true) else ((decay_Fade.f a0 x3_5).bind fun t251 => (if t249 > t251 then (backfilllaw10_DecayLaws.j1 kj5 a0 a1 x2_5 t248 t249 t250 true) else (if a0 ≤ a1 then (if t249 > t250 then (backfilllaw10_DecayLaws.j1 kj5 a0 a1 x2_5 t248 t249 t250 true) else (if a1 ≤ a0 then (backfilllaw10_DecayLaws.j1 kj5 a0 a1 x2_5 t248 t249 t250 (decide (t250 > t249))) else (backfilllaw10_DecayLaws.j1 kj5 a0 a1 x2_5 t248 t249 t250 false))) else (if a1 ≤ a0 then (backfilllaw10_DecayLaws.j1 kj5 a0 a1 x2_5 t248 t249 t250 (decide (t250 > t249))) else (backfilllaw10_DecayLaws.j1 kj5 a0 a1 x2_5 t248 t249 t250 false))))))) = some r := H; have A9 := Aside0.mk A90; clear A90; replace H := Option.bind_eq_some_iff.mp H; obtain ⟨t250, A100, H⟩ := H; replace H : (if t249 > a0 then (backfilllaw10_DecayLaws.j1 kj5 a0 a1 x2_5 t248 t249 t250 true) else ((decay_Fade.f a0 x3_5).bind fun t251 => (if t249 > t251 then (backfilllaw10_DecayLaws.j1 kj5 a0 a1 x2_5 t248 t249 t250 true) else (if a0 ≤ a1 then (if t249 > t250 then (backfilllaw10_DecayLaws.j1 kj5 a0 a1 x2_5 t248 t249 t250 true) else (if a1 ≤ a0 then (backfilllaw10_DecayLaws.j1 kj5 a0 a1 x2_5 t248 t249 t250 (decide (t250 > t249))) else (backfilllaw10_DecayLaws.j1 kj5 a0 a1 x2_5 t248 t249 t250 false))) else (if a1 ≤ a0 then (backfilllaw10_DecayLaws.j1 kj5 a0 a1 x2_5 t248 t249 t250 (decide (t250 > t249))) else (backfilllaw10_DecayLaws.j1 kj5 a0 a1 x2_5 t248 t249 t250 false)))))) = some r := H; have A10 := Aside0.mk A100; clear A100
   have HC11 := Aside0.mk H
   clear H
   go_upto_region 8 with (first | ((with_reducible refine gate_callee (f := 28) rfl ?_); refine goesL_ (some 23) rfl rfl Tryd.func28 (by kernel_rfl) rfl #[.int .u64 a0, .int .u64 x2_5] rfl aA ?_; (with_reducible refine (decay_Fade.calls a0 x2_5 t249 _ A9.out).mono ?_); rintro e w12 ⟨rfl, hb⟩; refine ⟨_, rfl, ?_⟩; have n0_ := Aside0.mk (below_step bA hb); clear HB; have HB := n0_; clear n0_; (try clear hb)) | ((with_reducible refine gate_callee (f := 28) rfl ?_); refine goesL_ (some 26) rfl rfl Tryd.func28 (by kernel_rfl) rfl #[.int .u64 a1, .int .u64 x2_5] rfl aA ?_; (with_reducible refine (decay_Fade.calls a1 x2_5 t250 _ A10.out).mono ?_); rintro e w13 ⟨rfl, hb⟩; refine ⟨_, rfl, ?_⟩; have n0_ := Aside0.mk (below_step bA hb); clear HB; have HB := n0_; clear n0_; (try clear hb)))
   (try simp only [Act.put, List.setIfInBounds_toArray, List.set_cons_zero, List.set_cons_succ])
   go_cut [56] (fun v56 wc => ∃ (kq : Nat) (x56_10 : Bool), v56 = .bool x56_10 ∧ Aside0 (backfilllaw10_DecayLaws.j1 kq a0 a1 x2_5 t248 t249 t250 x56_10 = some r) ∧ Aside0 (kq ≤ kj5) ∧ Aside0 (Below w.heap.size w wc))
   case first =>
    have H := HC11.out
    clear HC11
    by_cases c14 : t249 > a0
    ·rw [if_pos c14] at H
     have c14b0 : decide (a0 < t249) = true := decide_eq_true c14
     clear c14
     (first | rw [c14b0] | (simp only [i64_w, i32_w]; rw [c14b0]) | skip)
     have H' := Aside0.mk H
     clear H
     go_wp2
     go_meet
     case rel => exact ⟨_, (true), (by first | rfl | (simp; done) | (simp [*]; done)), H', ⟨by have := HJ5.out; first | omega | exact Nat.le_refl _⟩, ⟨bA⟩⟩
    ·rw [if_neg c14] at H
     have c14b0 : decide (a0 < t249) = false := decide_eq_false c14
     clear c14
     (first | rw [c14b0] | (simp only [i64_w, i32_w]; rw [c14b0]) | skip)
     replace H := Option.bind_eq_some_iff.mp H; obtain ⟨t251, A150, H⟩ := H; replace H : (if t249 > t251 then (backfilllaw10_DecayLaws.j1 kj5 a0 a1 x2_5 t248 t249 t250 true) else (if a0 ≤ a1 then (if t249 > t250 then (backfilllaw10_DecayLaws.j1 kj5 a0 a1 x2_5 t248 t249 t250 true) else (if a1 ≤ a0 then (backfilllaw10_DecayLaws.j1 kj5 a0 a1 x2_5 t248 t249 t250 (decide (t250 > t249))) else (backfilllaw10_DecayLaws.j1 kj5 a0 a1 x2_5 t248 t249 t250 false))) else (if a1 ≤ a0 then (backfilllaw10_DecayLaws.j1 kj5 a0 a1 x2_5 t248 t249 t250 (decide (t250 > t249))) else (backfilllaw10_DecayLaws.j1 kj5 a0 a1 x2_5 t248 t249 t250 false)))) = some r := H; have A15 := Aside0.mk A150; clear A150
     by_cases c16 : t249 > t251
     ·rw [if_pos c16] at H
      have c16b0 : decide (t251 < t249) = true := decide_eq_true c16
      clear c16
      have H' := Aside0.mk H
      clear H
      go_wp2_with (first | (go_at_call 28; (with_reducible refine (decay_Fade.calls a0 x3_5 t251 _ A15.out).mono ?_); rintro e w17 ⟨rfl, hb⟩; have n0_ := Aside0.mk (below_step bA hb); clear HB; have HB := n0_; clear n0_; (try clear hb)))
      go_meet
      case rel => exact ⟨_, (true), (by first | rfl | (simp; done) | (simp [*]; done)), H', ⟨by have := HJ5.out; first | omega | exact Nat.le_refl _⟩, ⟨bA⟩⟩
     ·rw [if_neg c16] at H
      have c16b0 : decide (t251 < t249) = false := decide_eq_false c16
      clear c16
      by_cases c18 : a0 ≤ a1
      ·rw [if_pos c18] at H
       have c18b0 : decide (a0 ≤ a1) = true := decide_eq_true c18
       clear c18
       by_cases c19 : t249 > t250
       ·rw [if_pos c19] at H
        have c19b0 : decide (t250 < t249) = true := decide_eq_true c19
        clear c19
        have H' := Aside0.mk H
        clear H
        go_wp2_with (first | (go_at_call 28; (with_reducible refine (decay_Fade.calls a0 x3_5 t251 _ A15.out).mono ?_); rintro e w20 ⟨rfl, hb⟩; have n0_ := Aside0.mk (below_step bA hb); clear HB; have HB := n0_; clear n0_; (try clear hb)))
        go_meet
        case rel => exact ⟨_, (true), (by first | rfl | (simp; done) | (simp [*]; done)), H', ⟨by have := HJ5.out; first | omega | exact Nat.le_refl _⟩, ⟨bA⟩⟩
       ·rw [if_neg c19] at H
        have c19b0 : decide (t250 < t249) = false := decide_eq_false c19
        clear c19
        by_cases c21 : a1 ≤ a0
        ·rw [if_pos c21] at H
         have c21b0 : decide (a1 ≤ a0) = true := decide_eq_true c21
         clear c21
         have H' := Aside0.mk H
         clear H
         go_wp2_with (first | (go_at_call 28; (with_reducible refine (decay_Fade.calls a0 x3_5 t251 _ A15.out).mono ?_); rintro e w22 ⟨rfl, hb⟩; have n0_ := Aside0.mk (below_step bA hb); clear HB; have HB := n0_; clear n0_; (try clear hb)))
         go_meet
         case rel => exact ⟨_, (decide (t250 > t249)), (by first | rfl | (simp; done) | (simp [*]; done)), H', ⟨by have := HJ5.out; first | omega | exact Nat.le_refl _⟩, ⟨bA⟩⟩
        ·rw [if_neg c21] at H
         have c21b0 : decide (a1 ≤ a0) = false := decide_eq_false c21
         clear c21
         have H' := Aside0.mk H
         clear H
         go_wp2_with (first | (go_at_call 28; (with_reducible refine (decay_Fade.calls a0 x3_5 t251 _ A15.out).mono ?_); rintro e w23 ⟨rfl, hb⟩; have n0_ := Aside0.mk (below_step bA hb); clear HB; have HB := n0_; clear n0_; (try clear hb)))
         go_meet
         case rel => exact ⟨_, (false), (by first | rfl | (simp; done) | (simp [*]; done)), H', ⟨by have := HJ5.out; first | omega | exact Nat.le_refl _⟩, ⟨bA⟩⟩
      ·rw [if_neg c18] at H
       have c18b0 : decide (a0 ≤ a1) = false := decide_eq_false c18
       clear c18
       by_cases c24 : a1 ≤ a0
       ·rw [if_pos c24] at H
        have c24b0 : decide (a1 ≤ a0) = true := decide_eq_true c24
        clear c24
        have H' := Aside0.mk H
        clear H
        go_wp2_with (first | (go_at_call 28; (with_reducible refine (decay_Fade.calls a0 x3_5 t251 _ A15.out).mono ?_); rintro e w25 ⟨rfl, hb⟩; have n0_ := Aside0.mk (below_step bA hb); clear HB; have HB := n0_; clear n0_; (try clear hb)))
        go_meet
        case rel => exact ⟨_, (decide (t250 > t249)), (by first | rfl | (simp; done) | (simp [*]; done)), H', ⟨by have := HJ5.out; first | omega | exact Nat.le_refl _⟩, ⟨bA⟩⟩
       ·rw [if_neg c24] at H
        have c24b0 : decide (a1 ≤ a0) = false := decide_eq_false c24
        clear c24
        have H' := Aside0.mk H
        clear H
        go_wp2_with (first | (go_at_call 28; (with_reducible refine (decay_Fade.calls a0 x3_5 t251 _ A15.out).mono ?_); rintro e w26 ⟨rfl, hb⟩; have n0_ := Aside0.mk (below_step bA hb); clear HB; have HB := n0_; clear n0_; (try clear hb)))
        go_meet
        case rel => exact ⟨_, (false), (by first | rfl | (simp; done) | (simp [*]; done)), H', ⟨by have := HJ5.out; first | omega | exact Nat.le_refl _⟩, ⟨bA⟩⟩
   case rest =>
    clear HC11
    try clear c1
    try clear c2
    try clear p2
    try clear c8
    try clear c8b0
    try clear c9
    try clear c14
    try clear c14b0
    try clear c16
    try clear c16b0
    try clear c18
    try clear c18b0
    try clear c19
    try clear c19b0
    try clear c21
    try clear c21b0
    try clear c23
    try clear c24
    try clear c24b0
    try clear p2
    obtain ⟨kq, x56_10, rfl, HA, HJ10, HB⟩ := hcut
    cases kq with
    | zero => exact absurd HA.out (by simp [backfilllaw10_DecayLaws.j1])
    | succ kj10 =>
     have H := HA.out
     clear HA
     simp only [backfilllaw10_DecayLaws.j1] at H
     by_cases c27 : x56_10 = true
     ·subst c27
      have H1 : (none) = some r := by rw [if_pos rfl] at H; exact H
      clear H
      have H := H1
      clear H1
      exact absurd H (by simp)
     ·replace c27 := Bool.eq_false_iff.mpr c27
      subst c27
      have H1 : (if a0 > (IntKind.u64.wrap (18446744073709551615 - a1)) then (some t248) else ((decay_Fade.f (IntKind.u64.wrap (a0 + a1)) x2_5).bind fun t252 => (if t248 = true then (if t252 = (IntKind.u64.wrap (t249 + t250)) then (some true) else (some (t252 == (IntKind.u64.wrap ((IntKind.u64.wrap (t249 + t250)) + 1))))) else (none)))) = some r := by rw [if_neg (show ¬ (false = true) by decide)] at H; exact H
      clear H
      have H := H1
      clear H1
      by_cases c28 : a0 > (IntKind.u64.wrap (18446744073709551615 - a1))
      ·rw [if_pos c28] at H
       have c28b0 : decide ((IntKind.u64.wrap (18446744073709551615 - a1)) < a0) = true := decide_eq_true c28
       clear c28
       obtain rfl := Option.some.inj H
       go_wp2
       go_ret
       exact ⟨by first | rfl | (simp [errW_none, errW_some] <;> rfl) | (simp [*, errW_none, errW_some] <;> rfl), bA⟩
      ·rw [if_neg c28] at H
       have c28b0 : decide ((IntKind.u64.wrap (18446744073709551615 - a1)) < a0) = false := decide_eq_false c28
       clear c28; replace H := Option.bind_eq_some_iff.mp H; obtain ⟨t252, A290, H⟩ := H; replace H : (if t248 = true then (if t252 = (IntKind.u64.wrap (t249 + t250)) then (some true) else (some (t252 == (IntKind.u64.wrap ((IntKind.u64.wrap (t249 + t250)) + 1))))) else (none)) = some r := H; have A29 := Aside0.mk A290; clear A290
       by_cases c30 : t248 = true
       ·subst c30
        have H1 : (if t252 = (IntKind.u64.wrap (t249 + t250)) then (some true) else (some (t252 == (IntKind.u64.wrap ((IntKind.u64.wrap (t249 + t250)) + 1))))) = some r := by rw [if_pos rfl] at H; exact H
        clear H
        have H := H1
        clear H1
        by_cases c31 : t252 = (IntKind.u64.wrap (t249 + t250))
        ·rw [if_pos c31] at H
         have c31b0 : (t252 == (IntKind.u64.wrap (t249 + t250))) = true := beq_iff_eq.mpr c31
         have c31b1 : (t252 != (IntKind.u64.wrap (t249 + t250))) = false := bne_eq_false_iff_eq.mpr c31
         clear c31
         obtain rfl := Option.some.inj H
         go_wp2_with (first | ((with_reducible refine gate_callee (f := 28) rfl ?_); refine goesL_ (some 66) rfl rfl Tryd.func28 (by kernel_rfl) rfl #[.int .u64 (IntKind.u64.wrap (a0 + a1)), .int .u64 x2_5] rfl aA ?_; (with_reducible refine (decay_Fade.calls (IntKind.u64.wrap (a0 + a1)) x2_5 t252 _ A29.out).mono ?_); rintro e w32 ⟨rfl, hb⟩; refine ⟨_, rfl, ?_⟩; have n0_ := Aside0.mk (below_step bA hb); clear HB; have HB := n0_; clear n0_; (try clear hb)))
         go_ret
         exact ⟨by first | rfl | (simp [errW_none, errW_some] <;> rfl) | (simp [*, errW_none, errW_some] <;> rfl), bA⟩
        ·rw [if_neg c31] at H
         have c31b0 : (t252 == (IntKind.u64.wrap (t249 + t250))) = false := beq_eq_false_iff_ne.mpr c31
         have c31b1 : (t252 != (IntKind.u64.wrap (t249 + t250))) = true := bne_iff_ne.mpr c31
         obtain rfl := Option.some.inj H
         go_wp2_with (first | ((with_reducible refine gate_callee (f := 28) rfl ?_); refine goesL_ (some 66) rfl rfl Tryd.func28 (by kernel_rfl) rfl #[.int .u64 (IntKind.u64.wrap (a0 + a1)), .int .u64 x2_5] rfl aA ?_; (with_reducible refine (decay_Fade.calls (IntKind.u64.wrap (a0 + a1)) x2_5 t252 _ A29.out).mono ?_); rintro e w33 ⟨rfl, hb⟩; refine ⟨_, rfl, ?_⟩; have n0_ := Aside0.mk (below_step bA hb); clear HB; have HB := n0_; clear n0_; (try clear hb)))
         go_ret
         exact ⟨by first | rfl | (simp [errW_none, errW_some] <;> rfl) | (simp [*, errW_none, errW_some] <;> rfl), bA⟩
       ·replace c30 := Bool.eq_false_iff.mpr c30
        subst c30
        have H1 : (none) = some r := by rw [if_neg (show ¬ (false = true) by decide)] at H; exact H
        clear H
        have H := H1
        clear H1
        exact absurd H (by simp)

/-- THE ONE PURE STATEMENT of backfilllaw10_DecayLaws: yours. -/
def backfilllaw10_DecayLaws.Pure : Prop := ∀ (a0 : Int) (a1 : Int) (a2 : Int) (a3 : Int), (Lit.int .u64 a0).wf = true → (Lit.int .u64 a1).wf = true → (Lit.int .u64 a2).wf = true → (Lit.int .u64 a3).wf = true → ∃ k, backfilllaw10_DecayLaws.f k a0 a1 a2 a3 = some true
theorem backfilllaw10_DecayLaws.walk (P : backfilllaw10_DecayLaws.Pure) (a0 : Int) (a1 : Int) (a2 : Int) (a3 : Int) (w : World) (hL : LaidW w) (w0 : (Lit.int .u64 a0).wf = true) (w1 : (Lit.int .u64 a1).wf = true) (w2 : (Lit.int .u64 a2).wf = true) (w3 : (Lit.int .u64 a3).wf = true) :
  Calls Tryd.prog 9 #[.int .u64 a0, .int .u64 a1, .int .u64 a2, .int .u64 a3] w fun e w' => e = .returned (.bool true) ∧ Below w.heap.size w w' := by
 obtain ⟨k, h⟩ := P a0 a1 a2 a3 w0 w1 w2 w3
 refine (backfilllaw10_DecayLaws.calls k a0 a1 a2 a3 true w hL h).mono ?_
 rintro e w' ⟨rfl, hd⟩
 exact ⟨rfl, hd⟩

end Go.Proofs.YtmgmggkebmgafaaDoor.GK
