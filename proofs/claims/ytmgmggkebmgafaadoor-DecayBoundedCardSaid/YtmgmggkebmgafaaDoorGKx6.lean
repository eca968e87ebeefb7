-- Laid by a program of this session (wip/tools/pr.py): contracts and pure functions; Lean checks it.
import Derived.Test.YtmgmggkebmgafaaDoorGKx0
import Derived.Test.YtmgmggkebmgafaaDoorGKx1
import Derived.Test.YtmgmggkebmgafaaDoorGKx2
namespace Go.Proofs.YtmgmggkebmgafaaDoor.GK
open Go.RowKit Go.Proofs.YtmgmggkebmgafaaDoorW.PrintWords Go.Proofs.YtmgmggkebmgafaaDoorW.PrintLast Go.Proofs.YtmgmggkebmgafaaDoorW.PrintMore
attribute [local go_sem] max2_int min2_int max_two min_two max_three min_three max_four min_four   -- for this text's walks alone
set_option linter.unusedVariables false
set_option linter.unusedSimpArgs false

/-! ### backfilllaw10_DecayBounded: function 10 -/
mutual
def backfilllaw10_DecayBounded.j0 : Nat → Int → Int → Int → List Int → Bool → Int → Bool → Option (Bool)
 | 0, _, _, _, _, _, _, _ => none
 | k + 1, x0, x1, x2, x3, x9, x10, x33 => if x33 = true then (some x9) else (if (IntKind.u64.wrap (x1)) = 0 then (none) else (if (IntKind.u64.wrap (Int.tdiv (IntKind.u64.wrap ((IntKind.u64.wrap (x0)) * 4294967296)) (IntKind.u64.wrap (x1)))) = 0 then (none) else (if (IntKind.u64.wrap (Int.tdiv (IntKind.u64.wrap ((IntKind.u64.wrap (8589934592 + (IntKind.u64.wrap (Int.tdiv (IntKind.u64.wrap ((IntKind.u64.wrap (x0)) * 4294967296)) (IntKind.u64.wrap (x1)))))) - 1)) (IntKind.u64.wrap (Int.tdiv (IntKind.u64.wrap ((IntKind.u64.wrap (x0)) * 4294967296)) (IntKind.u64.wrap (x1)))))) < 2 then (backfilllaw10_DecayBounded.j1 k x2 x3 x9 x10 2) else (backfilllaw10_DecayBounded.j1 k x2 x3 x9 x10 (IntKind.u64.wrap (Int.tdiv (IntKind.u64.wrap ((IntKind.u64.wrap (8589934592 + (IntKind.u64.wrap (Int.tdiv (IntKind.u64.wrap ((IntKind.u64.wrap (x0)) * 4294967296)) (IntKind.u64.wrap (x1)))))) - 1)) (IntKind.u64.wrap (Int.tdiv (IntKind.u64.wrap ((IntKind.u64.wrap (x0)) * 4294967296)) (IntKind.u64.wrap (x1))))))))))
def backfilllaw10_DecayBounded.j1 : Nat → Int → List Int → Bool → Int → Int → Option (Bool)
 | 0, _, _, _, _, _ => none
 | k + 1, x2, x3, x9, x10, x13 => if x13 > 2048 then (some x9) else (backfilllaw10_DecayBounded.l0 k x2 x3 x9 x10 x13 0 0)
def backfilllaw10_DecayBounded.l0 : Nat → Int → List Int → Bool → Int → Int → Int → Int → Option (Bool)
 | 0, _, _, _, _, _, _, _ => none
 | k + 1, x2, x3, x9, x10, x13, x14, x15 => if x15 < (x3.length : Int) then (backfilllaw10_DecayBounded.j3 k x2 x3 x9 x10 x13 x14 x15 (decide (x15 < 3000))) else (backfilllaw10_DecayBounded.j3 k x2 x3 x9 x10 x13 x14 x15 false)
def backfilllaw10_DecayBounded.j3 : Nat → Int → List Int → Bool → Int → Int → Int → Int → Bool → Option (Bool)
 | 0, _, _, _, _, _, _, _, _ => none
 | k + 1, x2, x3, x9, x10, x13, x14, x15, x58 => if x58 = true then (if 0 ≤ x15 then (if x15 < (x3.length : Int) then (if (rd x3 x15) < 0 then (backfilllaw10_DecayBounded.j4 k x2 x3 x9 x10 x13 x14 x15 (rd x3 x15) true) else (backfilllaw10_DecayBounded.j4 k x2 x3 x9 x10 x13 x14 x15 (rd x3 x15) (decide ((rd x3 x15) > x2)))) else (none)) else (none)) else (some x9)
def backfilllaw10_DecayBounded.j4 : Nat → Int → List Int → Bool → Int → Int → Int → Int → Int → Bool → Option (Bool)
 | 0, _, _, _, _, _, _, _, _, _ => none
 | k + 1, x2, x3, x9, x10, x13, x14, x15, x16, x71 => if x71 = true then (backfilllaw10_DecayBounded.j5 k x2 x3 x9 x10 x13 x14 x15 x2) else (backfilllaw10_DecayBounded.j5 k x2 x3 x9 x10 x13 x14 x15 x16)
def backfilllaw10_DecayBounded.j5 : Nat → Int → List Int → Bool → Int → Int → Int → Int → Int → Option (Bool)
 | 0, _, _, _, _, _, _, _, _ => none
 | k + 1, x2, x3, x9, x10, x13, x14, x15, x16 => (decay_Charge.f x14 x16).bind fun t257 => (if t257 > (IntKind.u64.wrap ((IntKind.u64.wrap ((IntKind.u64.wrap (x2)) * x13)) * 4294967296)) then (none) else ((decay_Fade.f t257 x10).bind fun t258 => (backfilllaw10_DecayBounded.l0 k x2 x3 x9 x10 x13 t258 (wrap64 (x15 + 1)))))
end
def backfilllaw10_DecayBounded.f (k : Nat) (a0 : Int) (a1 : Int) (a2 : Int) (l3 : List Int) : Option (Bool) := (backfilllaw10_shown.f).bind fun t253 => ((decay_Factor.f a0 a1).bind fun bt254 => (if bt254.2 = 0 then (if a2 < 1 then (backfilllaw10_DecayBounded.j0 k a0 a1 a2 l3 t253 bt254.1 true) else (backfilllaw10_DecayBounded.j0 k a0 a1 a2 l3 t253 bt254.1 (decide (a2 > 1048576)))) else (backfilllaw10_DecayBounded.j0 k a0 a1 a2 l3 t253 bt254.1 true)))
theorem backfilllaw10_DecayBounded.mono_l : ∀ k, (∀ y0 y1 y2 y3 y4 y5 y6, LeO (backfilllaw10_DecayBounded.j0 k y0 y1 y2 y3 y4 y5 y6) (backfilllaw10_DecayBounded.j0 (k + 1) y0 y1 y2 y3 y4 y5 y6)) ∧ (∀ y0 y1 y2 y3 y4, LeO (backfilllaw10_DecayBounded.j1 k y0 y1 y2 y3 y4) (backfilllaw10_DecayBounded.j1 (k + 1) y0 y1 y2 y3 y4)) ∧ (∀ y0 y1 y2 y3 y4 y5 y6, LeO (backfilllaw10_DecayBounded.l0 k y0 y1 y2 y3 y4 y5 y6) (backfilllaw10_DecayBounded.l0 (k + 1) y0 y1 y2 y3 y4 y5 y6)) ∧ (∀ y0 y1 y2 y3 y4 y5 y6 y7, LeO (backfilllaw10_DecayBounded.j3 k y0 y1 y2 y3 y4 y5 y6 y7) (backfilllaw10_DecayBounded.j3 (k + 1) y0 y1 y2 y3 y4 y5 y6 y7)) ∧ (∀ y0 y1 y2 y3 y4 y5 y6 y7 y8, LeO (backfilllaw10_DecayBounded.j4 k y0 y1 y2 y3 y4 y5 y6 y7 y8) (backfilllaw10_DecayBounded.j4 (k + 1) y0 y1 y2 y3 y4 y5 y6 y7 y8)) ∧ (∀ y0 y1 y2 y3 y4 y5 y6 y7, LeO (backfilllaw10_DecayBounded.j5 k y0 y1 y2 y3 y4 y5 y6 y7) (backfilllaw10_DecayBounded.j5 (k + 1) y0 y1 y2 y3 y4 y5 y6 y7))
 | 0 => ⟨fun _ _ _ _ _ _ _ r h => by simp [backfilllaw10_DecayBounded.j0] at h, fun _ _ _ _ _ r h => by simp [backfilllaw10_DecayBounded.j1] at h, fun _ _ _ _ _ _ _ r h => by simp [backfilllaw10_DecayBounded.l0] at h, fun _ _ _ _ _ _ _ _ r h => by simp [backfilllaw10_DecayBounded.j3] at h, fun _ _ _ _ _ _ _ _ _ r h => by simp [backfilllaw10_DecayBounded.j4] at h, fun _ _ _ _ _ _ _ _ r h => by simp [backfilllaw10_DecayBounded.j5] at h⟩
 | k + 1 => by
  obtain ⟨ih0, ih1, ih2, ih3, ih4, ih5⟩ := backfilllaw10_DecayBounded.mono_l k
  refine ⟨?_, ?_, ?_, ?_, ?_, ?_⟩
  ·intro y0 y1 y2 y3 y4 y5 y6
   unfold backfilllaw10_DecayBounded.j0
   repeat' first
   | (with_reducible exact ih0 _ _ _ _ _ _ _)
   | (with_reducible exact ih1 _ _ _ _ _)
   | (with_reducible exact ih2 _ _ _ _ _ _ _)
   | (with_reducible exact ih3 _ _ _ _ _ _ _ _)
   | (with_reducible exact ih4 _ _ _ _ _ _ _ _ _)
   | (with_reducible exact ih5 _ _ _ _ _ _ _ _)
   | (with_reducible exact LeO.refl _)
   | (with_reducible exact LeO.none _)
   | (with_reducible refine LeO.ite ?_ ?_)
   | (with_reducible refine LeO.bind ?_ (fun _ => ?_))
   | exact ih0 _ _ _ _ _ _ _
   | exact ih1 _ _ _ _ _
   | exact ih2 _ _ _ _ _ _ _
   | exact ih3 _ _ _ _ _ _ _ _
   | exact ih4 _ _ _ _ _ _ _ _ _
   | exact ih5 _ _ _ _ _ _ _ _
   | exact LeO.none _
   | refine LeO.ite ?_ ?_
   | refine LeO.bind ?_ (fun _ => ?_)
  ·intro y0 y1 y2 y3 y4
   unfold backfilllaw10_DecayBounded.j1
   repeat' first
   | (with_reducible exact ih0 _ _ _ _ _ _ _)
   | (with_reducible exact ih1 _ _ _ _ _)
   | (with_reducible exact ih2 _ _ _ _ _ _ _)
   | (with_reducible exact ih3 _ _ _ _ _ _ _ _)
   | (with_reducible exact ih4 _ _ _ _ _ _ _ _ _)
   | (with_reducible exact ih5 _ _ _ _ _ _ _ _)
   | (with_reducible exact LeO.refl _)
   | (with_reducible exact LeO.none _)
   | (with_reducible refine LeO.ite ?_ ?_)
   | (with_reducible refine LeO.bind ?_ (fun _ => ?_))
   | exact ih0 _ _ _ _ _ _ _
   | exact ih1 _ _ _ _ _
   | exact ih2 _ _ _ _ _ _ _
   | exact ih3 _ _ _ _ _ _ _ _
   | exact ih4 _ _ _ _ _ _ _ _ _
   | exact ih5 _ _ _ _ _ _ _ _
   | exact LeO.none _
   | refine LeO.ite ?_ ?_
   | refine LeO.bind ?_ (fun _ => ?_)
  ·intro y0 y1 y2 y3 y4 y5 y6
   unfold backfilllaw10_DecayBounded.l0
   repeat' first
   | (with_reducible exact ih0 _ _ _ _ _ _ _)
   | (with_reducible exact ih1 _ _ _ _ _)
   | (with_reducible exact ih2 _ _ _ _ _ _ _)
   | (with_reducible exact ih3 _ _ _ _ _ _ _ _)
   | (with_reducible exact ih4 _ _ _ _ _ _ _ _ _)
   | (with_reducible exact ih5 _ _ _ _ _ _ _ _)
   | (with_reducible exact LeO.refl _)
   | (with_reducible exact LeO.none _)
   | (with_reducible refine LeO.ite ?_ ?_)
   | (with_reducible refine LeO.bind ?_ (fun _ => ?_))
   | exact ih0 _ _ _ _ _ _ _
   | exact ih1 _ _ _ _ _
   | exact ih2 _ _ _ _ _ _ _
   | exact ih3 _ _ _ _ _ _ _ _
   | exact ih4 _ _ _ _ _ _ _ _ _
   | exact ih5 _ _ _ _ _ _ _ _
   | exact LeO.none _
   | refine LeO.ite ?_ ?_
   | refine LeO.bind ?_ (fun _ => ?_)
  ·intro y0 y1 y2 y3 y4 y5 y6 y7
   unfold backfilllaw10_DecayBounded.j3
   repeat' first
   | (with_reducible exact ih0 _ _ _ _ _ _ _)
   | (with_reducible exact ih1 _ _ _ _ _)
   | (with_reducible exact ih2 _ _ _ _ _ _ _)
   | (with_reducible exact ih3 _ _ _ _ _ _ _ _)
   | (with_reducible exact ih4 _ _ _ _ _ _ _ _ _)
   | (with_reducible exact ih5 _ _ _ _ _ _ _ _)
   | (with_reducible exact LeO.refl _)
   | (with_reducible exact LeO.none _)
   | (with_reducible refine LeO.ite ?_ ?_)
   | (with_reducible refine LeO.bind ?_ (fun _ => ?_))
   | exact ih0 _ _ _ _ _ _ _
   | exact ih1 _ _ _ _ _
   | exact ih2 _ _ _ _ _ _ _
   | exact ih3 _ _ _ _ _ _ _ _
   | exact ih4 _ _ _ _ _ _ _ _ _
   | exact ih5 _ _ _ _ _ _ _ _
   | exact LeO.none _
   | refine LeO.ite ?_ ?_
   | refine LeO.bind ?_ (fun _ => ?_)
  ·intro y0 y1 y2 y3 y4 y5 y6 y7 y8
   unfold backfilllaw10_DecayBounded.j4
   repeat' first
   | (with_reducible exact ih0 _ _ _ _ _ _ _)
   | (with_reducible exact ih1 _ _ _ _ _)
   | (with_reducible exact ih2 _ _ _ _ _ _ _)
   | (with_reducible exact ih3 _ _ _ _ _ _ _ _)
   | (with_reducible exact ih4 _ _ _ _ _ _ _ _ _)
   | (with_reducible exact ih5 _ _ _ _ _ _ _ _)
   | (with_reducible exact LeO.refl _)
   | (with_reducible exact LeO.none _)
   | (with_reducible refine LeO.ite ?_ ?_)
   | (with_reducible refine LeO.bind ?_ (fun _ => ?_))
   | exact ih0 _ _ _ _ _ _ _
   | exact ih1 _ _ _ _ _
   | exact ih2 _ _ _ _ _ _ _
   | exact ih3 _ _ _ _ _ _ _ _
   | exact ih4 _ _ _ _ _ _ _ _ _
   | exact ih5 _ _ _ _ _ _ _ _
   | exact LeO.none _
   | refine LeO.ite ?_ ?_
   | refine LeO.bind ?_ (fun _ => ?_)
  ·intro y0 y1 y2 y3 y4 y5 y6 y7
   unfold backfilllaw10_DecayBounded.j5
   repeat' first
   | (with_reducible exact ih0 _ _ _ _ _ _ _)
   | (with_reducible exact ih1 _ _ _ _ _)
   | (with_reducible exact ih2 _ _ _ _ _ _ _)
   | (with_reducible exact ih3 _ _ _ _ _ _ _ _)
   | (with_reducible exact ih4 _ _ _ _ _ _ _ _ _)
   | (with_reducible exact ih5 _ _ _ _ _ _ _ _)
   | (with_reducible exact LeO.refl _)
   | (with_reducible exact LeO.none _)
   | (with_reducible refine LeO.ite ?_ ?_)
   | (with_reducible refine LeO.bind ?_ (fun _ => ?_))
   | exact ih0 _ _ _ _ _ _ _
   | exact ih1 _ _ _ _ _
   | exact ih2 _ _ _ _ _ _ _
   | exact ih3 _ _ _ _ _ _ _ _
   | exact ih4 _ _ _ _ _ _ _ _ _
   | exact ih5 _ _ _ _ _ _ _ _
   | exact LeO.none _
   | refine LeO.ite ?_ ?_
   | refine LeO.bind ?_ (fun _ => ?_)
theorem backfilllaw10_DecayBounded.mono : ∀ a0 a1 a2 a3 k, LeO (backfilllaw10_DecayBounded.f k a0 a1 a2 a3) (backfilllaw10_DecayBounded.f (k + 1) a0 a1 a2 a3) := by
 intro a0 a1 a2 a3 k
 obtain ⟨ih0, ih1, ih2, ih3, ih4, ih5⟩ := backfilllaw10_DecayBounded.mono_l k
 unfold backfilllaw10_DecayBounded.f
 repeat' first
   | (with_reducible exact ih0 _ _ _ _ _ _ _)
   | (with_reducible exact ih1 _ _ _ _ _)
   | (with_reducible exact ih2 _ _ _ _ _ _ _)
   | (with_reducible exact ih3 _ _ _ _ _ _ _ _)
   | (with_reducible exact ih4 _ _ _ _ _ _ _ _ _)
   | (with_reducible exact ih5 _ _ _ _ _ _ _ _)
   | (with_reducible exact LeO.refl _)
   | (with_reducible exact LeO.none _)
   | (with_reducible refine LeO.ite ?_ ?_)
   | (with_reducible refine LeO.bind ?_ (fun _ => ?_))
   | exact ih0 _ _ _ _ _ _ _
   | exact ih1 _ _ _ _ _
   | exact ih2 _ _ _ _ _ _ _
   | exact ih3 _ _ _ _ _ _ _ _
   | exact ih4 _ _ _ _ _ _ _ _ _
   | exact ih5 _ _ _ _ _ _ _ _
   | exact LeO.none _
   | refine LeO.ite ?_ ?_
   | refine LeO.bind ?_ (fun _ => ?_)
set_option maxHeartbeats 8000000 in
set_option maxRecDepth 100000 in
theorem backfilllaw10_DecayBounded.calls (k : Nat) (a0 : Int) (a1 : Int) (a2 : Int) (A3 : Option Addr) (c3 : Nat) (l3 : List Int) (r : Bool) (w : World) (hL : LaidW w) (hr3 : Kd.C (Kd.int .i64) w A3 l3.length l3) (hc3 : l3.length ≤ c3) (h : backfilllaw10_DecayBounded.f k a0 a1 a2 l3 = some r) :
  Calls Tryd.prog 10 #[.int .i64 a0, .int .i64 a1, .int .i64 a2, .slice A3 l3.length c3] w fun e w' => e = .returned (.bool r) ∧ Below w.heap.size w w' := by
 have HR3 := Aside0.mk hr3
 have HC3 := Aside0.mk hc3
 clear hr3 hc3; have HB := Aside0.mk (Below.refl w.heap.size w)
 have H : ((backfilllaw10_shown.f).bind fun t253 => ((decay_Factor.f a0 a1).bind fun bt254 => (if bt254.2 = 0 then (if a2 < 1 then (backfilllaw10_DecayBounded.j0 k a0 a1 a2 l3 t253 bt254.1 true) else (backfilllaw10_DecayBounded.j0 k a0 a1 a2 l3 t253 bt254.1 (decide (a2 > 1048576)))) else (backfilllaw10_DecayBounded.j0 k a0 a1 a2 l3 t253 bt254.1 true)))) = some r := h
 clear h; replace H := Option.bind_eq_some_iff.mp H; obtain ⟨t253, A50, H⟩ := H; replace H : ((decay_Factor.f a0 a1).bind fun bt254 => (if bt254.2 = 0 then (if a2 < 1 then (backfilllaw10_DecayBounded.j0 k a0 a1 a2 l3 t253 bt254.1 true) else (backfilllaw10_DecayBounded.j0 k a0 a1 a2 l3 t253 bt254.1 (decide (a2 > 1048576)))) else (backfilllaw10_DecayBounded.j0 k a0 a1 a2 l3 t253 bt254.1 true))) = some r := H; have A5 := Aside0.mk A50; clear A50; replace H := Option.bind_eq_some_iff.mp H; obtain ⟨⟨t254, t255⟩, A60, H⟩ := H; replace H : (if t255 = 0 then (if a2 < 1 then (backfilllaw10_DecayBounded.j0 k a0 a1 a2 l3 t253 t254 true) else (backfilllaw10_DecayBounded.j0 k a0 a1 a2 l3 t253 t254 (decide (a2 > 1048576)))) else (backfilllaw10_DecayBounded.j0 k a0 a1 a2 l3 t253 t254 true)) = some r := H; have A6 := Aside0.mk A60; clear A60
 have HC7 := Aside0.mk H
 clear H
 go_enter Tryd.func10, Tryd.ntmps10
 go_upto_region 3 with (first | ((with_reducible refine gate_callee (f := 23) rfl ?_); refine goesL_ (some 17) rfl rfl Tryd.func23 (by kernel_rfl) rfl #[] rfl aA ?_; (with_reducible refine (backfilllaw10_shown.calls  t253 _ ?side1 A5.out).mono ?_); (case side1 => exact laid_below hL bA); rintro e w8 ⟨rfl, hb⟩; refine ⟨_, rfl, ?_⟩; have n0_ := Aside0.mk (below_step bA hb); clear HB; have HB := n0_; clear n0_; (try clear hb)) | ((with_reducible refine gate_callee (f := 24) rfl ?_); refine goesL_ (some 21) rfl rfl Tryd.func24 (by kernel_rfl) rfl #[.int .i64 a0, .int .i64 a1] rfl aA ?_; (with_reducible refine (decay_Factor.calls a0 a1 t254 t255 _ ?side1 A6.out).mono ?_); (case side1 => exact laid_below hL bA); rintro e w9 ⟨rfl, hb⟩; refine ⟨_, rfl, ?_⟩; have n0_ := Aside0.mk (below_step bA hb); clear HB; have HB := n0_; clear n0_; (try clear hb)))
 (try simp only [Act.put, List.setIfInBounds_toArray, List.set_cons_zero, List.set_cons_succ])
 go_cut [33] (fun v33 wc => ∃ (kq : Nat) (x33_6 : Bool), v33 = .bool x33_6 ∧ Aside0 (backfilllaw10_DecayBounded.j0 kq a0 a1 a2 l3 t253 t254 x33_6 = some r) ∧ Aside0 (kq ≤ k) ∧ Aside0 (Below w.heap.size w wc))
 case first =>
  have H := HC7.out
  clear HC7
  by_cases c10 : t255 = 0
  ·rw [if_pos c10] at H
   have c10b0 : (t255 == 0) = true := beq_iff_eq.mpr c10
   have c10b1 : (t255 != 0) = false := bne_eq_false_iff_eq.mpr c10
   clear c10
   (first | rw [c10b0] | (simp only [i64_w, i32_w]; rw [c10b0]) | skip)
   by_cases c11 : a2 < 1
   ·rw [if_pos c11] at H
    have c11b0 : decide (a2 < 1) = true := decide_eq_true c11
    clear c11
    have H' := Aside0.mk H
    clear H
    go_wp2
    go_meet
    case rel => exact ⟨_, (true), (by first | rfl | (simp; done) | (simp [*]; done)), H', ⟨by first | omega | exact Nat.le_refl _⟩, ⟨bA⟩⟩
   ·rw [if_neg c11] at H
    have c11b0 : decide (a2 < 1) = false := decide_eq_false c11
    clear c11
    have H' := Aside0.mk H
    clear H
    go_wp2
    go_meet
    case rel => exact ⟨_, (decide (a2 > 1048576)), (by first | rfl | (simp; done) | (simp [*]; done)), H', ⟨by first | omega | exact Nat.le_refl _⟩, ⟨bA⟩⟩
  ·rw [if_neg c10] at H
   have c10b0 : (t255 == 0) = false := beq_eq_false_iff_ne.mpr c10
   have c10b1 : (t255 != 0) = true := bne_iff_ne.mpr c10
   (first | rw [c10b0] | (simp only [i64_w, i32_w]; rw [c10b0]) | skip)
   have H' := Aside0.mk H
   clear H
   go_wp2
   go_meet
   case rel => exact ⟨_, (true), (by first | rfl | (simp; done) | (simp [*]; done)), H', ⟨by first | omega | exact Nat.le_refl _⟩, ⟨bA⟩⟩
 case rest =>
  clear HC7
  try clear c1
  try clear c2
  try clear p2
  try clear c3
  try clear c10
  try clear c10b0
  try clear c10b1
  try clear c11
  try clear c11b0
  obtain ⟨kq, x33_6, rfl, HA, HJ6, HB⟩ := hcut
  cases kq with
  | zero => exact absurd HA.out (by simp [backfilllaw10_DecayBounded.j0])
  | succ kj6 =>
   have H := HA.out
   clear HA
   simp only [backfilllaw10_DecayBounded.j0] at H
   by_cases c12 : x33_6 = true
   ·subst c12
    have H1 : (some t253) = some r := by rw [if_pos rfl] at H; exact H
    clear H
    have H := H1
    clear H1
    obtain rfl := Option.some.inj H
    go_wp2
    go_ret
    exact ⟨by first | rfl | (simp [errW_none, errW_some] <;> rfl) | (simp [*, errW_none, errW_some] <;> rfl), bA⟩
   ·replace c12 := Bool.eq_false_iff.mpr c12
    subst c12
    have H1 : (if (IntKind.u64.wrap (a1)) = 0 then (none) else (if (IntKind.u64.wrap (Int.tdiv (IntKind.u64.wrap ((IntKind.u64.wrap (a0)) * 4294967296)) (IntKind.u64.wrap (a1)))) = 0 then (none) else (if (IntKind.u64.wrap (Int.tdiv (IntKind.u64.wrap ((IntKind.u64.wrap (8589934592 + (IntKind.u64.wrap (Int.tdiv (IntKind.u64.wrap ((IntKind.u64.wrap (a0)) * 4294967296)) (IntKind.u64.wrap (a1)))))) - 1)) (IntKind.u64.wrap (Int.tdiv (IntKind.u64.wrap ((IntKind.u64.wrap (a0)) * 4294967296)) (IntKind.u64.wrap (a1)))))) < 2 then (backfilllaw10_DecayBounded.j1 kj6 a2 l3 t253 t254 2) else (backfilllaw10_DecayBounded.j1 kj6 a2 l3 t253 t254 (IntKind.u64.wrap (Int.tdiv (IntKind.u64.wrap ((IntKind.u64.wrap (8589934592 + (IntKind.u64.wrap (Int.tdiv (IntKind.u64.wrap ((IntKind.u64.wrap (a0)) * 4294967296)) (IntKind.u64.wrap (a1)))))) - 1)) (IntKind.u64.wrap (Int.tdiv (IntKind.u64.wrap ((IntKind.u64.wrap (a0)) * 4294967296)) (IntKind.u64.wrap (a1)))))))))) = some r := by rw [if_neg (show ¬ (false = true) by decide)] at H; exact H
    clear H
    have H := H1
    clear H1
    by_cases c13 : (IntKind.u64.wrap (a1)) = 0
    ·rw [if_pos c13] at H
     exact absurd H (by simp)
    ·rw [if_neg c13] at H
     have c13b0 : ((IntKind.u64.wrap (a1)) == 0) = false := beq_eq_false_iff_ne.mpr c13
     have c13b1 : ((IntKind.u64.wrap (a1)) != 0) = true := bne_iff_ne.mpr c13
     by_cases c14 : (IntKind.u64.wrap (Int.tdiv (IntKind.u64.wrap ((IntKind.u64.wrap (a0)) * 4294967296)) (IntKind.u64.wrap (a1)))) = 0
     ·rw [if_pos c14] at H
      exact absurd H (by simp)
     ·rw [if_neg c14] at H
      have c14b0 : ((IntKind.u64.wrap (Int.tdiv (IntKind.u64.wrap ((IntKind.u64.wrap (a0)) * 4294967296)) (IntKind.u64.wrap (a1)))) == 0) = false := beq_eq_false_iff_ne.mpr c14
      have c14b1 : ((IntKind.u64.wrap (Int.tdiv (IntKind.u64.wrap ((IntKind.u64.wrap (a0)) * 4294967296)) (IntKind.u64.wrap (a1)))) != 0) = true := bne_iff_ne.mpr c14
      have HC15 := Aside0.mk H
      clear H
      go_upto_if 47 with (fail)
      go_cut [13] (fun v13 wc => ∃ (kq : Nat) (x13_14 : Int), v13 = .int .u64 x13_14 ∧ Aside0 (backfilllaw10_DecayBounded.j1 kq a2 l3 t253 t254 x13_14 = some r) ∧ Aside0 (kq ≤ kj6) ∧ Aside0 (Below w.heap.size w wc))
      case first =>
       have H := HC15.out
       clear HC15
       by_cases c16 : (IntKind.u64.wrap (Int.tdiv (IntKind.u64.wrap ((IntKind.u64.wrap (8589934592 + (IntKind.u64.wrap (Int.tdiv (IntKind.u64.wrap ((IntKind.u64.wrap (a0)) * 4294967296)) (IntKind.u64.wrap (a1)))))) - 1)) (IntKind.u64.wrap (Int.tdiv (IntKind.u64.wrap ((IntKind.u64.wrap (a0)) * 4294967296)) (IntKind.u64.wrap (a1)))))) < 2
       ·rw [if_pos c16] at H
        have c16b0 : decide ((IntKind.u64.wrap (Int.tdiv (IntKind.u64.wrap ((IntKind.u64.wrap (8589934592 + (IntKind.u64.wrap (Int.tdiv (IntKind.u64.wrap ((IntKind.u64.wrap (a0)) * 4294967296)) (IntKind.u64.wrap (a1)))))) - 1)) (IntKind.u64.wrap (Int.tdiv (IntKind.u64.wrap ((IntKind.u64.wrap (a0)) * 4294967296)) (IntKind.u64.wrap (a1)))))) < 2) = true := decide_eq_true c16
        clear c16
        (first | rw [c16b0] | (simp only [i64_w, i32_w]; rw [c16b0]) | skip)
        have H' := Aside0.mk H
        clear H
        go_wp2
        go_meet
        case rel => exact ⟨_, (2), (by first | rfl | (simp; done) | (simp [*]; done)), H', ⟨by have := HJ6.out; first | omega | exact Nat.le_refl _⟩, ⟨bA⟩⟩
       ·rw [if_neg c16] at H
        have c16b0 : decide ((IntKind.u64.wrap (Int.tdiv (IntKind.u64.wrap ((IntKind.u64.wrap (8589934592 + (IntKind.u64.wrap (Int.tdiv (IntKind.u64.wrap ((IntKind.u64.wrap (a0)) * 4294967296)) (IntKind.u64.wrap (a1)))))) - 1)) (IntKind.u64.wrap (Int.tdiv (IntKind.u64.wrap ((IntKind.u64.wrap (a0)) * 4294967296)) (IntKind.u64.wrap (a1)))))) < 2) = false := decide_eq_false c16
        clear c16
        (first | rw [c16b0] | (simp only [i64_w, i32_w]; rw [c16b0]) | skip)
        have H' := Aside0.mk H
        clear H
        go_wp2
        go_meet
        case rel => exact ⟨_, (IntKind.u64.wrap (Int.tdiv (IntKind.u64.wrap ((IntKind.u64.wrap (8589934592 + (IntKind.u64.wrap (Int.tdiv (IntKind.u64.wrap ((IntKind.u64.wrap (a0)) * 4294967296)) (IntKind.u64.wrap (a1)))))) - 1)) (IntKind.u64.wrap (Int.tdiv (IntKind.u64.wrap ((IntKind.u64.wrap (a0)) * 4294967296)) (IntKind.u64.wrap (a1)))))), (by first | rfl | (simp; done) | (simp [*]; done)), H', ⟨by have := HJ6.out; first | omega | exact Nat.le_refl _⟩, ⟨bA⟩⟩
      case rest =>
       clear HC15
       try clear c1
       try clear c2
       try clear p2
       try clear c3
       try clear c10
       try clear c10b0
       try clear c10b1
       try clear c11
       try clear c11b0
       try clear c12
       try clear c13
       try clear c13b0
       try clear c13b1
       try clear c14
       try clear c14b0
       try clear c14b1
       try clear c16
       try clear c16b0
       try clear p2
       obtain ⟨kq, x13_14, rfl, HA, HJ14, HB⟩ := hcut
       cases kq with
       | zero => exact absurd HA.out (by simp [backfilllaw10_DecayBounded.j1])
       | succ kj14 =>
        have H := HA.out
        clear HA
        simp only [backfilllaw10_DecayBounded.j1] at H
        by_cases c17 : x13_14 > 2048
        ·rw [if_pos c17] at H
         have c17b0 : decide (2048 < x13_14) = true := decide_eq_true c17
         clear c17
         obtain rfl := Option.some.inj H
         go_wp2
         go_ret
         exact ⟨by first | rfl | (simp [errW_none, errW_some] <;> rfl) | (simp [*, errW_none, errW_some] <;> rfl), bA⟩
        ·rw [if_neg c17] at H
         have c17b0 : decide (2048 < x13_14) = false := decide_eq_false c17
         clear c17
         have H' := Aside0.mk H
         clear H
         go_wp2
         go_loopg [14, 15] kj14 (fun kq v14 v15 w' => ∃ (x14_3 : Int) (x15_3 : Int), v14 = .int .u64 x14_3 ∧ v15 = .int .i64 x15_3 ∧ Aside0 (backfilllaw10_DecayBounded.l0 kq a2 l3 t253 t254 x13_14 x14_3 x15_3 = some r) ∧ Aside0 (kq ≤ kj14) ∧ Aside0 (Below w.heap.size w w'))
         case atStart => exact ⟨(0), (0), (by first | rfl | (simp; done) | (simp [*]; done)), (by first | rfl | (simp; done) | (simp [*]; done)), H', ⟨Nat.le_refl _⟩, ⟨bA⟩⟩
         case round =>
          clear H'
          try clear c1
          try clear c2
          try clear p2
          try clear c3
          try clear c10
          try clear c10b0
          try clear c10b1
          try clear c11
          try clear c11b0
          try clear c12
          try clear c13
          try clear c13b0
          try clear c13b1
          try clear c14
          try clear c14b0
          try clear c14b1
          try clear c16
          try clear c16b0
          try clear c17
          try clear c17b0
          try clear p2
          obtain ⟨x14_3, x15_3, rfl, rfl, HA, HK3, HB⟩ := hrel
          cases gk with
          | zero => exact absurd HA.out (by simp [backfilllaw10_DecayBounded.l0])
          | succ k3 =>
           have H := HA.out
           clear HA
           simp only [backfilllaw10_DecayBounded.l0] at H
           have HC18 := Aside0.mk H
           clear H
           go_upto_region 13 with (fail)
           go_cut [58] (fun v58 wc => ∃ (kq : Nat) (x58_17 : Bool), v58 = .bool x58_17 ∧ Aside0 (backfilllaw10_DecayBounded.j3 kq a2 l3 t253 t254 x13_14 x14_3 x15_3 x58_17 = some r) ∧ Aside0 (kq ≤ k3) ∧ Aside0 (Below w.heap.size w wc))
           case first =>
            have H := HC18.out
            clear HC18
            by_cases c19 : x15_3 < (l3.length : Int)
            ·rw [if_pos c19] at H
             have c19b0 : decide (x15_3 < (l3.length : Int)) = true := decide_eq_true c19
             clear c19
             (first | rw [c19b0] | (simp only [i64_w, i32_w]; rw [c19b0]) | skip)
             have H' := Aside0.mk H
             clear H
             go_wp2
             go_meet
             case rel => exact ⟨_, (decide (x15_3 < 3000)), (by first | rfl | (simp; done) | (simp [*]; done)), H', ⟨by have := HJ6.out; have := HJ14.out; have := HK3.out; first | omega | exact Nat.le_refl _⟩, ⟨bA⟩⟩
            ·rw [if_neg c19] at H
             have c19b0 : decide (x15_3 < (l3.length : Int)) = false := decide_eq_false c19
             clear c19
             (first | rw [c19b0] | (simp only [i64_w, i32_w]; rw [c19b0]) | skip)
             have H' := Aside0.mk H
             clear H
             go_wp2
             go_meet
             case rel => exact ⟨_, (false), (by first | rfl | (simp; done) | (simp [*]; done)), H', ⟨by have := HJ6.out; have := HJ14.out; have := HK3.out; first | omega | exact Nat.le_refl _⟩, ⟨bA⟩⟩
           case rest =>
            clear HC18
            try clear c1
            try clear c2
            try clear p2
            try clear c3
            try clear c10
            try clear c10b0
            try clear c10b1
            try clear c11
            try clear c11b0
            try clear c12
            try clear c13
            try clear c13b0
            try clear c13b1
            try clear c14
            try clear c14b0
            try clear c14b1
            try clear c16
            try clear c16b0
            try clear c17
            try clear c17b0
            try clear c19
            try clear c19b0
            try clear p2
            obtain ⟨kq, x58_17, rfl, HA, HJ17, HB⟩ := hcut
            cases kq with
            | zero => exact absurd HA.out (by simp [backfilllaw10_DecayBounded.j3])
            | succ kj17 =>
             have H := HA.out
             clear HA
             simp only [backfilllaw10_DecayBounded.j3] at H
             by_cases c20 : x58_17 = true
             ·subst c20
              have H1 : (if 0 ≤ x15_3 then (if x15_3 < (l3.length : Int) then (if (rd l3 x15_3) < 0 then (backfilllaw10_DecayBounded.j4 kj17 a2 l3 t253 t254 x13_14 x14_3 x15_3 (rd l3 x15_3) true) else (backfilllaw10_DecayBounded.j4 kj17 a2 l3 t253 t254 x13_14 x14_3 x15_3 (rd l3 x15_3) (decide ((rd l3 x15_3) > a2)))) else (none)) else (none)) = some r := by rw [if_pos rfl] at H; exact H
              clear H
              have H := H1
              clear H1
              by_cases c21 : 0 ≤ x15_3
              ·rw [if_pos c21] at H
               have c21b0 : decide (0 ≤ x15_3) = true := decide_eq_true c21
               clear c21
               by_cases c22 : x15_3 < (l3.length : Int)
               ·rw [if_pos c22] at H
                have c22b0 : decide (x15_3 < (l3.length : Int)) = true := decide_eq_true c22
                clear c22
                have HC23 := Aside0.mk H
                clear H
                have p256 : 0 ≤ (x15_3 : Int) := of_decide_eq_true (by first | (with_reducible assumption) | assumption)
                have q256 : x15_3 < (l3.length : Int) := of_decide_eq_true (by first | (with_reducible assumption) | assumption)
                obtain ⟨ad256, e256, hx256_0⟩ := Kd.at_int HR3.out x15_3 p256 q256
                cases e256
                replace hx256_0 := (HB.out.cell (World.block_lt_of_cell? w _ hx256_0)).trans hx256_0
                replace p256 := eq_true p256
                replace q256 := eq_true q256
                go_upto_region 16 with (fail)
                go_cut [71] (fun v71 wc => ∃ (kq : Nat) (x71_22 : Bool), v71 = .bool x71_22 ∧ Aside0 (backfilllaw10_DecayBounded.j4 kq a2 l3 t253 t254 x13_14 x14_3 x15_3 (rd l3 x15_3) x71_22 = some r) ∧ Aside0 (kq ≤ kj17) ∧ Aside0 (Below w.heap.size w wc))
                case first =>
                 have H := HC23.out
                 clear HC23
                 by_cases c24 : (rd l3 x15_3) < 0
                 ·rw [if_pos c24] at H
                  have c24b0 : decide ((rd l3 x15_3) < 0) = true := decide_eq_true c24
                  clear c24
                  (first | rw [c24b0] | (simp only [i64_w, i32_w]; rw [c24b0]) | skip)
                  have H' := Aside0.mk H
                  clear H
                  go_wp2
                  go_meet
                  case rel => exact ⟨_, (true), (by first | rfl | (simp; done) | (simp [*]; done)), H', ⟨by have := HJ6.out; have := HJ14.out; have := HK3.out; have := HJ17.out; first | omega | exact Nat.le_refl _⟩, ⟨bA⟩⟩
                 ·rw [if_neg c24] at H
                  have c24b0 : decide ((rd l3 x15_3) < 0) = false := decide_eq_false c24
                  clear c24
                  (first | rw [c24b0] | (simp only [i64_w, i32_w]; rw [c24b0]) | skip)
                  have H' := Aside0.mk H
                  clear H
                  go_wp2
                  go_meet
                  case rel => exact ⟨_, (decide ((rd l3 x15_3) > a2)), (by first | rfl | (simp; done) | (simp [*]; done)), H', ⟨by have := HJ6.out; have := HJ14.out; have := HK3.out; have := HJ17.out; first | omega | exact Nat.le_refl _⟩, ⟨bA⟩⟩
                case rest =>
                 clear HC23
                 try clear c1
                 try clear c2
                 try clear p2
                 try clear q2
                 try clear hx2
                 try clear c3
                 try clear c10
                 try clear c10b0
                 try clear c10b1
                 try clear c11
                 try clear c11b0
                 try clear c12
                 try clear c13
                 try clear c13b0
                 try clear c13b1
                 try clear c14
                 try clear c14b0
                 try clear c14b1
                 try clear c16
                 try clear c16b0
                 try clear c17
                 try clear c17b0
                 try clear c19
                 try clear c19b0
                 try clear c20
                 try clear c21
                 try clear c21b0
                 try clear c22
                 try clear c22b0
                 try clear c23
                 try clear c24
                 try clear c24b0
                 try clear hx256_0
                 try clear p2
                 try clear p256
                 try clear q256
                 obtain ⟨kq, x71_22, rfl, HA, HJ22, HB⟩ := hcut
                 cases kq with
                 | zero => exact absurd HA.out (by simp [backfilllaw10_DecayBounded.j4])
                 | succ kj22 =>
                  have H := HA.out
                  clear HA
                  simp only [backfilllaw10_DecayBounded.j4] at H
                  have HC25 := Aside0.mk H
                  clear H
                  go_upto_if 71 with (fail)
                  go_cut [16] (fun v16 wc => ∃ (kq : Nat) (x16_24 : Int), v16 = .int .i64 x16_24 ∧ Aside0 (backfilllaw10_DecayBounded.j5 kq a2 l3 t253 t254 x13_14 x14_3 x15_3 x16_24 = some r) ∧ Aside0 (kq ≤ kj22) ∧ Aside0 (Below w.heap.size w wc))
                  case first =>
                   have H := HC25.out
                   clear HC25
                   by_cases c26 : x71_22 = true
                   ·subst c26
                    have H1 : (backfilllaw10_DecayBounded.j5 kj22 a2 l3 t253 t254 x13_14 x14_3 x15_3 a2) = some r := by rw [if_pos rfl] at H; exact H
                    clear H
                    have H := H1
                    clear H1
                    have H' := Aside0.mk H
                    clear H
                    go_wp2
                    go_meet
                    case rel => exact ⟨_, (a2), (by first | rfl | (simp; done) | (simp [*]; done)), H', ⟨by have := HJ6.out; have := HJ14.out; have := HK3.out; have := HJ17.out; have := HJ22.out; first | omega | exact Nat.le_refl _⟩, ⟨bA⟩⟩
                   ·replace c26 := Bool.eq_false_iff.mpr c26
                    subst c26
                    have H1 : (backfilllaw10_DecayBounded.j5 kj22 a2 l3 t253 t254 x13_14 x14_3 x15_3 (rd l3 x15_3)) = some r := by rw [if_neg (show ¬ (false = true) by decide)] at H; exact H
                    clear H
                    have H := H1
                    clear H1
                    have H' := Aside0.mk H
                    clear H
                    go_wp2
                    go_meet
                    case rel => exact ⟨_, ((rd l3 x15_3)), (by first | rfl | (simp; done) | (simp [*]; done)), H', ⟨by have := HJ6.out; have := HJ14.out; have := HK3.out; have := HJ17.out; have := HJ22.out; first | omega | exact Nat.le_refl _⟩, ⟨bA⟩⟩
                  case rest =>
                   clear HC25
                   try clear c1
                   try clear c2
                   try clear p2
                   try clear q2
                   try clear hx2
                   try clear c3
                   try clear c10
                   try clear c10b0
                   try clear c10b1
                   try clear c11
                   try clear c11b0
                   try clear c12
                   try clear c13
                   try clear c13b0
                   try clear c13b1
                   try clear c14
                   try clear c14b0
                   try clear c14b1
                   try clear c16
                   try clear c16b0
                   try clear c17
                   try clear c17b0
                   try clear c19
                   try clear c19b0
                   try clear c20
                   try clear c21
                   try clear c21b0
                   try clear c22
                   try clear c22b0
                   try clear c23
                   try clear c24
                   try clear c24b0
                   try clear p25
                   try clear q25
                   try clear hx25
                   try clear c26
                   try clear hx256_0
                   try clear p2
                   try clear p256
                   try clear q2
                   try clear q256
                   obtain ⟨kq, x16_24, rfl, HA, HJ24, HB⟩ := hcut
                   cases kq with
                   | zero => exact absurd HA.out (by simp [backfilllaw10_DecayBounded.j5])
                   | succ kj24 =>
                    have H := HA.out
                    clear HA
                    simp only [backfilllaw10_DecayBounded.j5] at H
                    replace H := Option.bind_eq_some_iff.mp H; obtain ⟨t257, A270, H⟩ := H; replace H : (if t257 > (IntKind.u64.wrap ((IntKind.u64.wrap ((IntKind.u64.wrap (a2)) * x13_14)) * 4294967296)) then (none) else ((decay_Fade.f t257 t254).bind fun t258 => (backfilllaw10_DecayBounded.l0 kj24 a2 l3 t253 t254 x13_14 t258 (wrap64 (x15_3 + 1))))) = some r := H; have A27 := Aside0.mk A270; clear A270
                    by_cases c28 : t257 > (IntKind.u64.wrap ((IntKind.u64.wrap ((IntKind.u64.wrap (a2)) * x13_14)) * 4294967296))
                    ·rw [if_pos c28] at H
                     exact absurd H (by simp)
                    ·rw [if_neg c28] at H
                     have c28b0 : decide ((IntKind.u64.wrap ((IntKind.u64.wrap ((IntKind.u64.wrap (a2)) * x13_14)) * 4294967296)) < t257) = false := decide_eq_false c28
                     clear c28; replace H := Option.bind_eq_some_iff.mp H; obtain ⟨t258, A290, H⟩ := H; replace H : (backfilllaw10_DecayBounded.l0 kj24 a2 l3 t253 t254 x13_14 t258 (wrap64 (x15_3 + 1))) = some r := H; have A29 := Aside0.mk A290; clear A290
                     have H' := Aside0.mk H
                     clear H
                     go_wp2_with (first | ((with_reducible refine gate_callee (f := 26) rfl ?_); refine goesL_ (some 75) rfl rfl Tryd.func26 (by kernel_rfl) rfl #[.int .u64 x14_3, .int .i64 x16_24] rfl aA ?_; (with_reducible refine (decay_Charge.calls x14_3 x16_24 t257 _ A27.out).mono ?_); rintro e w30 ⟨rfl, hb⟩; refine ⟨_, rfl, ?_⟩; have n0_ := Aside0.mk (below_step bA hb); clear HB; have HB := n0_; clear n0_; (try clear hb)) | ((with_reducible refine gate_callee (f := 28) rfl ?_); refine goesL_ (some 85) rfl rfl Tryd.func28 (by kernel_rfl) rfl #[.int .u64 t257, .int .u64 t254] rfl aA ?_; (with_reducible refine (decay_Fade.calls t257 t254 t258 _ A29.out).mono ?_); rintro e w31 ⟨rfl, hb⟩; refine ⟨_, rfl, ?_⟩; have n0_ := Aside0.mk (below_step bA hb); clear HB; have HB := n0_; clear n0_; (try clear hb)))
                     go_roundg kj24
                     case measure => have := HJ6.out; have := HJ14.out; have := HK3.out; have := HJ17.out; have := HJ22.out; have := HJ24.out; omega
                     case rel => exact ⟨(t258), (wrap64 (x15_3 + 1)), (by first | rfl | (simp; done) | (simp [*]; done)), (by first | rfl | (simp; done) | (simp [*]; done)), H', ⟨by have := HJ6.out; have := HJ14.out; have := HK3.out; have := HJ17.out; have := HJ22.out; have := HJ24.out; omega⟩, ⟨bA⟩⟩
               ·rw [if_neg c22] at H
                exact absurd H (by simp)
              ·rw [if_neg c21] at H
               exact absurd H (by simp)
             ·replace c20 := Bool.eq_false_iff.mpr c20
              subst c20
              have H1 : (some t253) = some r := by rw [if_neg (show ¬ (false = true) by decide)] at H; exact H
              clear H
              have H := H1
              clear H1
              obtain rfl := Option.some.inj H
              go_wp2
              go_ret
              exact ⟨by first | rfl | (simp [errW_none, errW_some] <;> rfl) | (simp [*, errW_none, errW_some] <;> rfl), bA⟩

/-- THE ONE PURE STATEMENT of backfilllaw10_DecayBounded: yours. -/
def backfilllaw10_DecayBounded.Pure : Prop := ∀ (a0 : Int) (a1 : Int) (a2 : Int) (l3 : List Int), (Lit.int .i64 a0).wf = true → (Lit.int .i64 a1).wf = true → (Lit.int .i64 a2).wf = true → l3.length ≤ maxLen → l3.length * 8 ≤ 140737488351232 → (∀ x ∈ l3, (Lit.int .i64 x).wf = true) → ∃ k, backfilllaw10_DecayBounded.f k a0 a1 a2 l3 = some true
theorem backfilllaw10_DecayBounded.walk (P : backfilllaw10_DecayBounded.Pure) (a0 : Int) (a1 : Int) (a2 : Int) (a3 : Option Addr) (len3 cap3 : Nat) (z3 : List Int) (w : World) (hL : LaidW w) (w0 : (Lit.int .i64 a0).wf = true) (w1 : (Lit.int .i64 a1).wf = true) (w2 : (Lit.int .i64 a2).wf = true) (w3 : (a3 = none ∧ len3 = 0 ∧ cap3 = 0 ∧ z3 = []) ∨ ∃ x, a3 = some x ∧ len3 ≤ cap3 ∧ cap3 ≤ maxLen ∧ z3.length = cap3 ∧ (∀ i, i < z3.length → w.cell? (x.add i) = some (.int .i64 (z3.getD i 0))) ∧ ∀ n ∈ z3, (Lit.int .i64 n).wf = true) (y3 : len3 * 8 ≤ 140737488351232) :
  Calls Tryd.prog 10 #[.int .i64 a0, .int .i64 a1, .int .i64 a2, .slice a3 len3 cap3] w fun e w' => e = .returned (.bool true) ∧ Below w.heap.size w w' := by
 obtain ⟨l3, rfl, hr3, hm3, hw3, hc3⟩ := ReadsInt.ofRowC w3
 obtain ⟨k, h⟩ := P a0 a1 a2 l3 w0 w1 w2 hm3 y3 hw3
 refine (backfilllaw10_DecayBounded.calls k a0 a1 a2 _ _ l3 true w hL (Kd.C_of_reads (d := (0 : Int)) (h1 := fun _ => rfl) hr3) hc3 h).mono ?_
 rintro e w' ⟨rfl, hd⟩
 exact ⟨rfl, hd⟩

/-! ### backfilllaw10_DecayNumbers: function 11 -/
def backfilllaw10_DecayNumbers.f  : Option (Bool) := (backfilllaw10_shown.f).bind fun t259 => (if t259 = true then (some true) else (none))
set_option maxHeartbeats 8000000 in
set_option maxRecDepth 100000 in
theorem backfilllaw10_DecayNumbers.calls  (r : Bool) (w : World) (hL : LaidW w) (h : backfilllaw10_DecayNumbers.f  = some r) :
  Calls Tryd.prog 11 #[] w fun e w' => e = .returned (.bool r) ∧ Below w.heap.size w w' := by
 have HB := Aside0.mk (Below.refl w.heap.size w)
 have H : ((backfilllaw10_shown.f).bind fun t259 => (if t259 = true then (some true) else (none))) = some r := h
 clear h; replace H := Option.bind_eq_some_iff.mp H; obtain ⟨t259, A10, H⟩ := H; replace H : (if t259 = true then (some true) else (none)) = some r := H; have A1 := Aside0.mk A10; clear A10
 by_cases c2 : t259 = true
 ·subst c2
  have H1 : (some true) = some r := by rw [if_pos rfl] at H; exact H
  clear H
  have H := H1
  clear H1
  obtain rfl := Option.some.inj H
  go_enter Tryd.func11, Tryd.ntmps11
  go_wp2_with (first | ((with_reducible refine gate_callee (f := 23) rfl ?_); refine goesL_ (some 2) rfl rfl Tryd.func23 (by kernel_rfl) rfl #[] rfl aA ?_; (with_reducible refine (backfilllaw10_shown.calls  true _ ?side1 A1.out).mono ?_); (case side1 => exact laid_below hL bA); rintro e w3 ⟨rfl, hb⟩; refine ⟨_, rfl, ?_⟩; have n0_ := Aside0.mk (below_step bA hb); clear HB; have HB := n0_; clear n0_; (try clear hb)))
  go_ret
  exact ⟨by first | rfl | (simp [errW_none, errW_some] <;> rfl) | (simp [*, errW_none, errW_some] <;> rfl), bA⟩
 ·replace c2 := Bool.eq_false_iff.mpr c2
  subst c2
  have H1 : (none) = some r := by rw [if_neg (show ¬ (false = true) by decide)] at H; exact H
  clear H
  have H := H1
  clear H1
  exact absurd H (by simp)

/-- THE ONE PURE STATEMENT of backfilllaw10_DecayNumbers: yours. -/
def backfilllaw10_DecayNumbers.Pure : Prop := backfilllaw10_DecayNumbers.f  = some true
theorem backfilllaw10_DecayNumbers.walk (P : backfilllaw10_DecayNumbers.Pure)  (w : World) (hL : LaidW w)  :
  Calls Tryd.prog 11 #[] w fun e w' => e = .returned (.bool true) ∧ Below w.heap.size w w' := by
 have h := P  
 refine (backfilllaw10_DecayNumbers.calls  true w hL h).mono ?_
 rintro e w' ⟨rfl, hd⟩
 exact ⟨rfl, hd⟩

end Go.Proofs.YtmgmggkebmgafaaDoor.GK
