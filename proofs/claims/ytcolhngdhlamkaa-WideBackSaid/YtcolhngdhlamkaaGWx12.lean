-- Laid by a program of this session (wip/tools/pr.py): contracts and pure functions; Lean checks it.
import Derived.Test.YtcolhngdhlamkaaGWx0
import Derived.Test.YtcolhngdhlamkaaGWx1
import Derived.Test.YtcolhngdhlamkaaGWx4
import Derived.Test.YtcolhngdhlamkaaGWx5
import Derived.Test.YtcolhngdhlamkaaGWx6
import Derived.Test.YtcolhngdhlamkaaGWx7
import Derived.Test.YtcolhngdhlamkaaGWx9
namespace Go.Proofs.Ytcolhngdhlamkaa.GW
open Go.RowKit Go.Proofs.YtcolhngdhlamkaaW.PrintWords Go.Proofs.YtcolhngdhlamkaaW.PrintLast Go.Proofs.YtcolhngdhlamkaaW.PrintMore
attribute [local go_sem] max2_int min2_int max_two min_two max_three min_three max_four min_four   -- for this text's walks alone
set_option linter.unusedVariables false
set_option linter.unusedSimpArgs false

attribute [local go_sem high] eqA25
/-! ### backfilllaw01_WideBack: function 11 -/
mutual
def backfilllaw01_WideBack.j0 : Nat → Int → Bool → Bool → Int → Int → Int → Int → Option (Bool)
 | 0, _, _, _, _, _, _, _ => none
 | k + 1, x2, x7, x48, x314000, x314001, x315000, x315001 => if x48 = true then (none) else ((wide_Div.f k x314000 x314001 x315001).bind fun bt325 => (if (bt325.2.2.2 != (x315001 != 0)) = true then (backfilllaw01_WideBack.j1 k x2 x7 bt325.2.2.1 bt325.2.2.2 true x314000 x314001 x315000 x315001 bt325.1 bt325.2.1) else (if bt325.2.2.2 = true then (backfilllaw01_WideBack.j1 k x2 x7 bt325.2.2.1 bt325.2.2.2 (decide (bt325.2.2.1 ≥ x315001)) x314000 x314001 x315000 x315001 bt325.1 bt325.2.1) else (backfilllaw01_WideBack.j1 k x2 x7 bt325.2.2.1 bt325.2.2.2 false x314000 x314001 x315000 x315001 bt325.1 bt325.2.1))))
def backfilllaw01_WideBack.j1 : Nat → Int → Bool → Int → Bool → Bool → Int → Int → Int → Int → Int → Int → Option (Bool)
 | 0, _, _, _, _, _, _, _, _, _, _, _ => none
 | k + 1, x2, x7, x13, x14, x70, x314000, x314001, x315000, x315001, x330000, x330001 => if x70 = true then (none) else ((wide_Times.f x330000 x330001 x315001).bind fun bt330 => ((wide_Of.f x13).bind fun bt334 => ((wide_Add.f bt330.1 bt330.2.1 bt334.1 bt334.2).bind fun bt336 => (if x14 = true then (if bt330.2.2 = true then (if bt336.2.2 = true then (backfilllaw01_WideBack.j2 k x2 x7 (!(bt336.1 == x314000) || (!(bt336.2.1 == x314001))) x314000 x314001) else (backfilllaw01_WideBack.j2 k x2 x7 true x314000 x314001)) else (backfilllaw01_WideBack.j2 k x2 x7 true x314000 x314001)) else (backfilllaw01_WideBack.j2 k x2 x7 false x314000 x314001)))))
def backfilllaw01_WideBack.j2 : Nat → Int → Bool → Bool → Int → Int → Option (Bool)
 | 0, _, _, _, _, _ => none
 | k + 1, x2, x7, x98, x314000, x314001 => if x98 = true then (none) else (if x2 ≥ 0 then (backfilllaw01_WideBack.j3 k x2 x7 (decide (x2 < 128)) x314000 x314001) else (backfilllaw01_WideBack.j3 k x2 x7 false x314000 x314001))
def backfilllaw01_WideBack.j3 : Nat → Int → Bool → Bool → Int → Int → Option (Bool)
 | 0, _, _, _, _, _ => none
 | k + 1, x2, x7, x104, x314000, x314001 => if x104 = true then ((wide_Shr.f x314000 x314001 x2).bind fun bt340 => ((wide_Shl.f bt340.1 bt340.2 x2).bind fun bt342 => ((wide_Sub.f x314000 x314001 bt342.1 bt342.2).bind fun bt345 => ((wide_Cmp.f bt342.1 bt342.2 x314000 x314001).bind fun t349 => (if t349 > 0 then (none) else ((wide_Shr.f bt345.1 bt345.2.1 x2).bind fun bt350 => (if (!(bt350.1 == 0) || (!(bt350.2 == 0))) = true then (none) else ((wide_Shr.f x314000 x314001 x2).bind fun bt352 => ((wide_Shl.f bt352.1 bt352.2 x2).bind fun bt354 => ((wide_Shr.f bt354.1 bt354.2 x2).bind fun bt356 => ((wide_Shr.f x314000 x314001 x2).bind fun bt358 => (if (!(bt356.1 == bt358.1) || (!(bt356.2 == bt358.2))) = true then (none) else (backfilllaw01_WideBack.j4 k x7 x314000 x314001))))))))))))) else (backfilllaw01_WideBack.j4 k x7 x314000 x314001)
def backfilllaw01_WideBack.j4 : Nat → Bool → Int → Int → Option (Bool)
 | 0, _, _, _ => none
 | k + 1, x7, x314000, x314001 => (wide_Sqrt.f k x314000 x314001).bind fun t360 => ((wide_Mul.f (IntKind.u64.wrap (t360 + 1)) (IntKind.u64.wrap (t360 + 1))).bind fun bt361 => (if x7 = true then ((wide_Mul.f t360 t360).bind fun bt364 => ((wide_Cmp.f bt364.1 bt364.2 x314000 x314001).bind fun t366 => (if t366 ≤ 0 then (if t360 = 18446744073709551615 then (some true) else ((wide_Cmp.f bt361.1 bt361.2 x314000 x314001).bind fun t367 => (some (decide (t367 > 0))))) else (none)))) else (none)))
end
def backfilllaw01_WideBack.f (k : Nat) (a0_0 : Int) (a0_1 : Int) (a1_0 : Int) (a1_1 : Int) (a2 : Int) : Option (Bool) := (backfilllaw01_shown.f k).bind fun t315 => ((wide_Add.f a0_0 a0_1 a1_0 a1_1).bind fun bt316 => ((wide_Sub.f bt316.1 bt316.2.1 a1_0 a1_1).bind fun bt320 => (if bt316.2.2 = true then (if (!(bt320.1 == a0_0) || (!(bt320.2.1 == a0_1))) = true then (backfilllaw01_WideBack.j0 k a2 t315 true a0_0 a0_1 a1_0 a1_1) else ((wide_Cmp.f bt316.1 bt316.2.1 a0_0 a0_1).bind fun t324 => (backfilllaw01_WideBack.j0 k a2 t315 (decide (t324 < 0)) a0_0 a0_1 a1_0 a1_1))) else (backfilllaw01_WideBack.j0 k a2 t315 false a0_0 a0_1 a1_0 a1_1))))
theorem backfilllaw01_WideBack.mono_l : ∀ k, (∀ y0 y1 y2 y3 y4 y5 y6, LeO (backfilllaw01_WideBack.j0 k y0 y1 y2 y3 y4 y5 y6) (backfilllaw01_WideBack.j0 (k + 1) y0 y1 y2 y3 y4 y5 y6)) ∧ (∀ y0 y1 y2 y3 y4 y5 y6 y7 y8 y9 y10, LeO (backfilllaw01_WideBack.j1 k y0 y1 y2 y3 y4 y5 y6 y7 y8 y9 y10) (backfilllaw01_WideBack.j1 (k + 1) y0 y1 y2 y3 y4 y5 y6 y7 y8 y9 y10)) ∧ (∀ y0 y1 y2 y3 y4, LeO (backfilllaw01_WideBack.j2 k y0 y1 y2 y3 y4) (backfilllaw01_WideBack.j2 (k + 1) y0 y1 y2 y3 y4)) ∧ (∀ y0 y1 y2 y3 y4, LeO (backfilllaw01_WideBack.j3 k y0 y1 y2 y3 y4) (backfilllaw01_WideBack.j3 (k + 1) y0 y1 y2 y3 y4)) ∧ (∀ y0 y1 y2, LeO (backfilllaw01_WideBack.j4 k y0 y1 y2) (backfilllaw01_WideBack.j4 (k + 1) y0 y1 y2))
 | 0 => ⟨fun _ _ _ _ _ _ _ r h => by simp [backfilllaw01_WideBack.j0] at h, fun _ _ _ _ _ _ _ _ _ _ _ r h => by simp [backfilllaw01_WideBack.j1] at h, fun _ _ _ _ _ r h => by simp [backfilllaw01_WideBack.j2] at h, fun _ _ _ _ _ r h => by simp [backfilllaw01_WideBack.j3] at h, fun _ _ _ r h => by simp [backfilllaw01_WideBack.j4] at h⟩
 | k + 1 => by
  obtain ⟨ih0, ih1, ih2, ih3, ih4⟩ := backfilllaw01_WideBack.mono_l k
  refine ⟨?_, ?_, ?_, ?_, ?_⟩
  ·intro y0 y1 y2 y3 y4 y5 y6
   unfold backfilllaw01_WideBack.j0
   repeat' first
   | (with_reducible exact ih0 _ _ _ _ _ _ _)
   | (with_reducible exact ih1 _ _ _ _ _ _ _ _ _ _ _)
   | (with_reducible exact ih2 _ _ _ _ _)
   | (with_reducible exact ih3 _ _ _ _ _)
   | (with_reducible exact ih4 _ _ _)
   | (with_reducible exact backfilllaw01_shown.mono _)
   | (with_reducible exact wide_Div.mono _ _ _ _)
   | (with_reducible exact wide_Sqrt.mono _ _ _)
   | (with_reducible exact LeO.refl _)
   | (with_reducible exact LeO.none _)
   | (with_reducible refine LeO.ite ?_ ?_)
   | (with_reducible refine LeO.bind ?_ (fun _ => ?_))
   | exact ih0 _ _ _ _ _ _ _
   | exact ih1 _ _ _ _ _ _ _ _ _ _ _
   | exact ih2 _ _ _ _ _
   | exact ih3 _ _ _ _ _
   | exact ih4 _ _ _
   | exact backfilllaw01_shown.mono _
   | exact wide_Div.mono _ _ _ _
   | exact wide_Sqrt.mono _ _ _
   | exact LeO.none _
   | refine LeO.ite ?_ ?_
   | refine LeO.bind ?_ (fun _ => ?_)
  ·intro y0 y1 y2 y3 y4 y5 y6 y7 y8 y9 y10
   unfold backfilllaw01_WideBack.j1
   repeat' first
   | (with_reducible exact ih0 _ _ _ _ _ _ _)
   | (with_reducible exact ih1 _ _ _ _ _ _ _ _ _ _ _)
   | (with_reducible exact ih2 _ _ _ _ _)
   | (with_reducible exact ih3 _ _ _ _ _)
   | (with_reducible exact ih4 _ _ _)
   | (with_reducible exact backfilllaw01_shown.mono _)
   | (with_reducible exact wide_Div.mono _ _ _ _)
   | (with_reducible exact wide_Sqrt.mono _ _ _)
   | (with_reducible exact LeO.refl _)
   | (with_reducible exact LeO.none _)
   | (with_reducible refine LeO.ite ?_ ?_)
   | (with_reducible refine LeO.bind ?_ (fun _ => ?_))
   | exact ih0 _ _ _ _ _ _ _
   | exact ih1 _ _ _ _ _ _ _ _ _ _ _
   | exact ih2 _ _ _ _ _
   | exact ih3 _ _ _ _ _
   | exact ih4 _ _ _
   | exact backfilllaw01_shown.mono _
   | exact wide_Div.mono _ _ _ _
   | exact wide_Sqrt.mono _ _ _
   | exact LeO.none _
   | refine LeO.ite ?_ ?_
   | refine LeO.bind ?_ (fun _ => ?_)
  ·intro y0 y1 y2 y3 y4
   unfold backfilllaw01_WideBack.j2
   repeat' first
   | (with_reducible exact ih0 _ _ _ _ _ _ _)
   | (with_reducible exact ih1 _ _ _ _ _ _ _ _ _ _ _)
   | (with_reducible exact ih2 _ _ _ _ _)
   | (with_reducible exact ih3 _ _ _ _ _)
   | (with_reducible exact ih4 _ _ _)
   | (with_reducible exact backfilllaw01_shown.mono _)
   | (with_reducible exact wide_Div.mono _ _ _ _)
   | (with_reducible exact wide_Sqrt.mono _ _ _)
   | (with_reducible exact LeO.refl _)
   | (with_reducible exact LeO.none _)
   | (with_reducible refine LeO.ite ?_ ?_)
   | (with_reducible refine LeO.bind ?_ (fun _ => ?_))
   | exact ih0 _ _ _ _ _ _ _
   | exact ih1 _ _ _ _ _ _ _ _ _ _ _
   | exact ih2 _ _ _ _ _
   | exact ih3 _ _ _ _ _
   | exact ih4 _ _ _
   | exact backfilllaw01_shown.mono _
   | exact wide_Div.mono _ _ _ _
   | exact wide_Sqrt.mono _ _ _
   | exact LeO.none _
   | refine LeO.ite ?_ ?_
   | refine LeO.bind ?_ (fun _ => ?_)
  ·intro y0 y1 y2 y3 y4
   unfold backfilllaw01_WideBack.j3
   repeat' first
   | (with_reducible exact ih0 _ _ _ _ _ _ _)
   | (with_reducible exact ih1 _ _ _ _ _ _ _ _ _ _ _)
   | (with_reducible exact ih2 _ _ _ _ _)
   | (with_reducible exact ih3 _ _ _ _ _)
   | (with_reducible exact ih4 _ _ _)
   | (with_reducible exact backfilllaw01_shown.mono _)
   | (with_reducible exact wide_Div.mono _ _ _ _)
   | (with_reducible exact wide_Sqrt.mono _ _ _)
   | (with_reducible exact LeO.refl _)
   | (with_reducible exact LeO.none _)
   | (with_reducible refine LeO.ite ?_ ?_)
   | (with_reducible refine LeO.bind ?_ (fun _ => ?_))
   | exact ih0 _ _ _ _ _ _ _
   | exact ih1 _ _ _ _ _ _ _ _ _ _ _
   | exact ih2 _ _ _ _ _
   | exact ih3 _ _ _ _ _
   | exact ih4 _ _ _
   | exact backfilllaw01_shown.mono _
   | exact wide_Div.mono _ _ _ _
   | exact wide_Sqrt.mono _ _ _
   | exact LeO.none _
   | refine LeO.ite ?_ ?_
   | refine LeO.bind ?_ (fun _ => ?_)
  ·intro y0 y1 y2
   unfold backfilllaw01_WideBack.j4
   repeat' first
   | (with_reducible exact ih0 _ _ _ _ _ _ _)
   | (with_reducible exact ih1 _ _ _ _ _ _ _ _ _ _ _)
   | (with_reducible exact ih2 _ _ _ _ _)
   | (with_reducible exact ih3 _ _ _ _ _)
   | (with_reducible exact ih4 _ _ _)
   | (with_reducible exact backfilllaw01_shown.mono _)
   | (with_reducible exact wide_Div.mono _ _ _ _)
   | (with_reducible exact wide_Sqrt.mono _ _ _)
   | (with_reducible exact LeO.refl _)
   | (with_reducible exact LeO.none _)
   | (with_reducible refine LeO.ite ?_ ?_)
   | (with_reducible refine LeO.bind ?_ (fun _ => ?_))
   | exact ih0 _ _ _ _ _ _ _
   | exact ih1 _ _ _ _ _ _ _ _ _ _ _
   | exact ih2 _ _ _ _ _
   | exact ih3 _ _ _ _ _
   | exact ih4 _ _ _
   | exact backfilllaw01_shown.mono _
   | exact wide_Div.mono _ _ _ _
   | exact wide_Sqrt.mono _ _ _
   | exact LeO.none _
   | refine LeO.ite ?_ ?_
   | refine LeO.bind ?_ (fun _ => ?_)
theorem backfilllaw01_WideBack.mono : ∀ a0 a1 a2 a3 a4 k, LeO (backfilllaw01_WideBack.f k a0 a1 a2 a3 a4) (backfilllaw01_WideBack.f (k + 1) a0 a1 a2 a3 a4) := by
 intro a0 a1 a2 a3 a4 k
 obtain ⟨ih0, ih1, ih2, ih3, ih4⟩ := backfilllaw01_WideBack.mono_l k
 unfold backfilllaw01_WideBack.f
 repeat' first
   | (with_reducible exact ih0 _ _ _ _ _ _ _)
   | (with_reducible exact ih1 _ _ _ _ _ _ _ _ _ _ _)
   | (with_reducible exact ih2 _ _ _ _ _)
   | (with_reducible exact ih3 _ _ _ _ _)
   | (with_reducible exact ih4 _ _ _)
   | (with_reducible exact backfilllaw01_shown.mono _)
   | (with_reducible exact wide_Div.mono _ _ _ _)
   | (with_reducible exact wide_Sqrt.mono _ _ _)
   | (with_reducible exact LeO.refl _)
   | (with_reducible exact LeO.none _)
   | (with_reducible refine LeO.ite ?_ ?_)
   | (with_reducible refine LeO.bind ?_ (fun _ => ?_))
   | exact ih0 _ _ _ _ _ _ _
   | exact ih1 _ _ _ _ _ _ _ _ _ _ _
   | exact ih2 _ _ _ _ _
   | exact ih3 _ _ _ _ _
   | exact ih4 _ _ _
   | exact backfilllaw01_shown.mono _
   | exact wide_Div.mono _ _ _ _
   | exact wide_Sqrt.mono _ _ _
   | exact LeO.none _
   | refine LeO.ite ?_ ?_
   | refine LeO.bind ?_ (fun _ => ?_)
def backfilllaw01_WideBack.T10 : Bool × List (List Nat × List Nat) := (true, [([], []), ([], []), ([1], [1]), ([0, 2, 2], [0, 2]), ([3], [3]), ([4], [4]), ([4], [4]), ([], []), ([7, 5, 3, 0, 1, 2, 3, 4, 5, 7], [5, 7]), ([6, 8, 0, 1, 2, 3, 4, 5, 6, 7, 8], [6])])
def backfilllaw01_WideBack.B10 : List Nat := [0, 0, 2, 7, 15, 31, 31, 0, 191, 511]
theorem backfilllaw01_WideBack.tab10 : rtab .any (opsOf Try.f11 10) = backfilllaw01_WideBack.T10 := by kernel_rfl
theorem backfilllaw01_WideBack.bits10 : waitsOk backfilllaw01_WideBack.T10.2 backfilllaw01_WideBack.B10 = true := by kernel_rfl
def backfilllaw01_WideBack.T16 : Bool × List (List Nat × List Nat) := (true, [([], []), ([], []), ([0, 1], [0, 1]), ([2], [2]), ([3, 2], [3]), ([4], [4]), ([4], [4]), ([5, 6, 4, 4], [4, 5, 6]), ([4], [4]), ([7, 8, 4], [4, 7, 8]), ([4, 9], [4, 9]), ([10, 7], [10]), ([11], [11]), ([11], [11]), ([12, 13, 11, 11], [11, 12, 13]), ([11], [11]), ([14, 15, 14, 11], [11, 14, 15]), ([11], [11]), ([16, 17, 16, 11], [11, 16, 17]), ([11], [11]), ([11], [11]), ([19, 20, 18, 11], [11, 19, 20]), ([18, 21, 11], [11, 18, 21]), ([11, 22], [11, 22])])
def backfilllaw01_WideBack.B16 : List Nat := [0, 0, 3, 7, 15, 31, 31, 127, 31, 511, 1023, 2047, 4095, 4095, 16383, 4095, 65535, 4095, 262143, 4095, 4095, 2097151, 4194303, 8388607]
theorem backfilllaw01_WideBack.tab16 : rtab .any (opsOf Try.f11 16) = backfilllaw01_WideBack.T16 := by kernel_rfl
theorem backfilllaw01_WideBack.bits16 : waitsOk backfilllaw01_WideBack.T16.2 backfilllaw01_WideBack.B16 = true := by kernel_rfl
def backfilllaw01_WideBack.T20 : Bool × List (List Nat × List Nat) := (true, [([], []), ([0], [0]), ([1], [1]), ([1], [1]), ([2, 3, 1, 1], [1, 2, 3]), ([1], [1]), ([4, 5, 4, 1], [1, 4, 5]), ([6, 1], [1, 6]), ([1, 7], [1, 7]), ([8, 6], [8]), ([9], [9]), ([10, 9], [9, 10]), ([11, 9, 9], [9, 11]), ([12], [12]), ([12], [12]), ([13, 14, 12, 12], [12, 13, 14]), ([15, 12], [12, 15]), ([12, 16, 9], [9, 12, 16]), ([9, 17], [9, 17]), ([18, 15, 0, 1, 2, 3, 4, 5, 6, 7, 8, 9, 10, 11, 12, 13, 14, 15, 16, 17, 18], [18])])
def backfilllaw01_WideBack.B20 : List Nat := [0, 1, 3, 3, 15, 3, 63, 127, 255, 511, 1023, 2047, 4095, 8191, 8191, 32767, 65535, 131071, 262143, 524287]
theorem backfilllaw01_WideBack.tab20 : rtab .any (opsOf Try.f11 20) = backfilllaw01_WideBack.T20 := by kernel_rfl
theorem backfilllaw01_WideBack.bits20 : waitsOk backfilllaw01_WideBack.T20.2 backfilllaw01_WideBack.B20 = true := by kernel_rfl
set_option maxHeartbeats 8000000 in
set_option maxRecDepth 100000 in
theorem backfilllaw01_WideBack.calls (k : Nat) (a0_0 : Int) (a0_1 : Int) (a1_0 : Int) (a1_1 : Int) (a2 : Int) (r : Bool) (w : World) (h : backfilllaw01_WideBack.f k a0_0 a0_1 a1_0 a1_1 a2 = some r) :
  Calls Try.prog 11 #[.agg #[.int .u64 a0_0, .int .u64 a0_1], .agg #[.int .u64 a1_0, .int .u64 a1_1], .int .i64 a2] w fun e w' => e = .returned (.bool r) ∧ Below w.heap.size w w' := by
 have hu25 := Try.underlying25
 have HB := Aside0.mk (Below.refl w.heap.size w)
 have H : ((backfilllaw01_shown.f k).bind fun t315 => ((wide_Add.f a0_0 a0_1 a1_0 a1_1).bind fun bt316 => ((wide_Sub.f bt316.1 bt316.2.1 a1_0 a1_1).bind fun bt320 => (if bt316.2.2 = true then (if (!(bt320.1 == a0_0) || (!(bt320.2.1 == a0_1))) = true then (backfilllaw01_WideBack.j0 k a2 t315 true a0_0 a0_1 a1_0 a1_1) else ((wide_Cmp.f bt316.1 bt316.2.1 a0_0 a0_1).bind fun t324 => (backfilllaw01_WideBack.j0 k a2 t315 (decide (t324 < 0)) a0_0 a0_1 a1_0 a1_1))) else (backfilllaw01_WideBack.j0 k a2 t315 false a0_0 a0_1 a1_0 a1_1))))) = some r := h
 clear h; replace H := Option.bind_eq_some_iff.mp H; obtain ⟨t315, A40, H⟩ := H; replace H : ((wide_Add.f a0_0 a0_1 a1_0 a1_1).bind fun bt316 => ((wide_Sub.f bt316.1 bt316.2.1 a1_0 a1_1).bind fun bt320 => (if bt316.2.2 = true then (if (!(bt320.1 == a0_0) || (!(bt320.2.1 == a0_1))) = true then (backfilllaw01_WideBack.j0 k a2 t315 true a0_0 a0_1 a1_0 a1_1) else ((wide_Cmp.f bt316.1 bt316.2.1 a0_0 a0_1).bind fun t324 => (backfilllaw01_WideBack.j0 k a2 t315 (decide (t324 < 0)) a0_0 a0_1 a1_0 a1_1))) else (backfilllaw01_WideBack.j0 k a2 t315 false a0_0 a0_1 a1_0 a1_1)))) = some r := H; have A4 := Aside0.mk A40; clear A40; replace H := Option.bind_eq_some_iff.mp H; obtain ⟨⟨t316, t317, t318⟩, A50, H⟩ := H; replace H : ((wide_Sub.f t316 t317 a1_0 a1_1).bind fun bt320 => (if t318 = true then (if (!(bt320.1 == a0_0) || (!(bt320.2.1 == a0_1))) = true then (backfilllaw01_WideBack.j0 k a2 t315 true a0_0 a0_1 a1_0 a1_1) else ((wide_Cmp.f t316 t317 a0_0 a0_1).bind fun t324 => (backfilllaw01_WideBack.j0 k a2 t315 (decide (t324 < 0)) a0_0 a0_1 a1_0 a1_1))) else (backfilllaw01_WideBack.j0 k a2 t315 false a0_0 a0_1 a1_0 a1_1))) = some r := H; have A5 := Aside0.mk A50; clear A50; replace H := Option.bind_eq_some_iff.mp H; obtain ⟨⟨t320, t321, t322⟩, A60, H⟩ := H; replace H : (if t318 = true then (if (!(t320 == a0_0) || (!(t321 == a0_1))) = true then (backfilllaw01_WideBack.j0 k a2 t315 true a0_0 a0_1 a1_0 a1_1) else ((wide_Cmp.f t316 t317 a0_0 a0_1).bind fun t324 => (backfilllaw01_WideBack.j0 k a2 t315 (decide (t324 < 0)) a0_0 a0_1 a1_0 a1_1))) else (backfilllaw01_WideBack.j0 k a2 t315 false a0_0 a0_1 a1_0 a1_1)) = some r := H; have A6 := Aside0.mk A60; clear A60
 have HC7 := Aside0.mk H
 clear H
 go_enter Try.func11, Try.ntmps11
 go_upto_region 4 with (first | ((with_reducible refine gate_dst (N := 3) rfl ?_); refine bxA 3 #[.int .u64 a0_0, .int .u64 a0_1] 25 ?_; intro gb313 hg w8 hbox hb; have n0_ := Aside0.mk (below_step bA hb); have n1_ := Aside0.mk (hbox); have n2_ := Aside0.mk ((by rw [hg]; exact (below_size bA) : w.heap.size ≤ gb313)); have n3_ := Aside0.mk ((by rw [hg]; exact (below_size bA) : w.heap.size ≤ gb313)); clear HB; have HB := n0_; have BK313 := n1_; have GW313 := n2_; have GE313 := n3_; clear n0_ n1_ n2_ n3_ hb hbox hg) | ((with_reducible refine gate_dst (N := 4) rfl ?_); refine bxA 4 #[.int .u64 a1_0, .int .u64 a1_1] 25 ?_; intro gb314 hg w9 hbox hb; have n0_ := Aside0.mk (blk_below (g := gb313) (o := .cells #[.int .u64 a0_0, .int .u64 a0_1] 25 (0, 0)) kA hb); have n1_ := Aside0.mk (below_step bA hb); have n2_ := Aside0.mk (hbox); have n3_ := Aside0.mk ((by rw [hg]; exact (below_size bA) : w.heap.size ≤ gb314)); have n4_ := Aside0.mk ((by rw [hg]; exact (below_size bA) : w.heap.size ≤ gb314)); have n5_ := Aside0.mk ((by rw [hg]; exact Nat.ne_of_lt (blk_lt (g := gb313) (o := .cells #[.int .u64 a0_0, .int .u64 a0_1] 25 (0, 0)) kA) : gb313 ≠ gb314)); have n6_ := Aside0.mk ((by rw [hg]; exact Nat.ne_of_gt (blk_lt (g := gb313) (o := .cells #[.int .u64 a0_0, .int .u64 a0_1] 25 (0, 0)) kA) : gb314 ≠ gb313)); clear BK313 HB; have BK313 := n0_; have HB := n1_; have BK314 := n2_; have GW314 := n3_; have GE314 := n4_; have NB313_314 := n5_; have NB314_313 := n6_; clear n0_ n1_ n2_ n3_ n4_ n5_ n6_ hb hbox hg) | ((with_reducible refine gate_callee (f := 13) rfl ?_); refine goesL_ (some 24) rfl rfl Try.func13 (by kernel_rfl) rfl #[] rfl aA ?_; (with_reducible refine (backfilllaw01_shown.calls k  t315 _ A4.out).mono ?_); rintro e w10 ⟨rfl, hb⟩; refine ⟨_, rfl, ?_⟩; have n0_ := Aside0.mk (blk_below (g := gb313) (o := .cells #[.int .u64 a0_0, .int .u64 a0_1] 25 (0, 0)) kA hb); have n1_ := Aside0.mk (blk_below (g := gb314) (o := .cells #[.int .u64 a1_0, .int .u64 a1_1] 25 (0, 0)) kA hb); have n2_ := Aside0.mk (below_step bA hb); clear BK313 BK314 HB; have BK313 := n0_; have BK314 := n1_; have HB := n2_; clear n0_ n1_ n2_; (try clear hb); have hnb11 := NB313_314.out; have hnc11 := NB314_313.out; have hcz12_0 : w10.cell? ⟨gb313, 0, none⟩ = some (.int .u64 a0_0) := (blk_cell BK313.out 0).trans rfl; have hcz12_1 : w10.cell? ⟨gb313, 1, none⟩ = some (.int .u64 a0_1) := (blk_cell BK313.out 1).trans rfl; have hfz12_0 := blk_frozen BK313.out 0; have hfz12_1 := blk_frozen BK313.out 1; have hcz13_0 : w10.cell? ⟨gb314, 0, none⟩ = some (.int .u64 a1_0) := (blk_cell BK314.out 0).trans rfl; have hcz13_1 : w10.cell? ⟨gb314, 1, none⟩ = some (.int .u64 a1_1) := (blk_cell BK314.out 1).trans rfl; have hfz13_0 := blk_frozen BK314.out 0; have hfz13_1 := blk_frozen BK314.out 1) | ((with_reducible refine gate_callee (f := 40) rfl ?_); refine goesL_ (some 28) rfl rfl Try.func40 (by kernel_rfl) rfl #[.agg #[.int .u64 a0_0, .int .u64 a0_1], .agg #[.int .u64 a1_0, .int .u64 a1_1]] rfl aA ?_; (with_reducible refine (wide_Add.calls a0_0 a0_1 a1_0 a1_1 t316 t317 t318 _ A5.out).mono ?_); rintro e w14 ⟨rfl, hb⟩; refine ⟨_, rfl, ?_⟩; have n0_ := Aside0.mk (blk_below (g := gb313) (o := .cells #[.int .u64 a0_0, .int .u64 a0_1] 25 (0, 0)) kA hb); have n1_ := Aside0.mk (blk_below (g := gb314) (o := .cells #[.int .u64 a1_0, .int .u64 a1_1] 25 (0, 0)) kA hb); have n2_ := Aside0.mk (below_step bA hb); clear BK313 BK314 HB; have BK313 := n0_; have BK314 := n1_; have HB := n2_; clear n0_ n1_ n2_; (try clear hb)) | ((with_reducible refine gate_dst (N := 8) rfl ?_); refine bxA 8 #[.int .u64 0, .int .u64 0] 25 ?_; intro gb319 hg w15 hbox hb; have n0_ := Aside0.mk (blk_below (g := gb313) (o := .cells #[.int .u64 a0_0, .int .u64 a0_1] 25 (0, 0)) kA hb); have n1_ := Aside0.mk (blk_below (g := gb314) (o := .cells #[.int .u64 a1_0, .int .u64 a1_1] 25 (0, 0)) kA hb); have n2_ := Aside0.mk (below_step bA hb); have n3_ := Aside0.mk (hbox); have n4_ := Aside0.mk ((by rw [hg]; exact (below_size bA) : w.heap.size ≤ gb319)); have n5_ := Aside0.mk ((by rw [hg]; exact (below_size bA) : w.heap.size ≤ gb319)); have n6_ := Aside0.mk ((by rw [hg]; exact Nat.ne_of_lt (blk_lt (g := gb313) (o := .cells #[.int .u64 a0_0, .int .u64 a0_1] 25 (0, 0)) kA) : gb313 ≠ gb319)); have n7_ := Aside0.mk ((by rw [hg]; exact Nat.ne_of_gt (blk_lt (g := gb313) (o := .cells #[.int .u64 a0_0, .int .u64 a0_1] 25 (0, 0)) kA) : gb319 ≠ gb313)); have n8_ := Aside0.mk ((by rw [hg]; exact Nat.ne_of_lt (blk_lt (g := gb314) (o := .cells #[.int .u64 a1_0, .int .u64 a1_1] 25 (0, 0)) kA) : gb314 ≠ gb319)); have n9_ := Aside0.mk ((by rw [hg]; exact Nat.ne_of_gt (blk_lt (g := gb314) (o := .cells #[.int .u64 a1_0, .int .u64 a1_1] 25 (0, 0)) kA) : gb319 ≠ gb314)); clear BK313 BK314 HB; have BK313 := n0_; have BK314 := n1_; have HB := n2_; have BK319 := n3_; have GW319 := n4_; have GE319 := n5_; have NB313_319 := n6_; have NB319_313 := n7_; have NB314_319 := n8_; have NB319_314 := n9_; clear n0_ n1_ n2_ n3_ n4_ n5_ n6_ n7_ n8_ n9_ hb hbox hg; have hnb16 := NB319_313.out; have hnc16 := NB313_319.out; have hnb17 := NB319_314.out; have hnc17 := NB314_319.out; have hcz18_0 : w15.cell? ⟨gb319, 0, none⟩ = some (.int .u64 0) := (blk_cell BK319.out 0).trans rfl; have hcz18_1 : w15.cell? ⟨gb319, 1, none⟩ = some (.int .u64 0) := (blk_cell BK319.out 1).trans rfl; have hfz18_0 := blk_frozen BK319.out 0; have hfz18_1 := blk_frozen BK319.out 1; have hcz19_0 : w15.cell? ⟨gb314, 0, none⟩ = some (.int .u64 a1_0) := (blk_cell BK314.out 0).trans rfl; have hcz19_1 : w15.cell? ⟨gb314, 1, none⟩ = some (.int .u64 a1_1) := (blk_cell BK314.out 1).trans rfl; have hfz19_0 := blk_frozen BK314.out 0; have hfz19_1 := blk_frozen BK314.out 1) | ((with_reducible refine gate_callee (f := 41) rfl ?_); refine goesL_ (some 34) rfl rfl Try.func41 (by kernel_rfl) rfl #[.agg #[.int .u64 t316, .int .u64 t317], .agg #[.int .u64 a1_0, .int .u64 a1_1]] rfl aA ?_; (with_reducible refine (wide_Sub.calls t316 t317 a1_0 a1_1 t320 t321 t322 _ A6.out).mono ?_); rintro e w20 ⟨rfl, hb⟩; refine ⟨_, rfl, ?_⟩; have n0_ := Aside0.mk (blk_below (g := gb313) (o := .cells #[.int .u64 a0_0, .int .u64 a0_1] 25 (0, 0)) (by (with_reducible repeat (first | refine blk_drewN ?_ _ | refine blk_drew ?_ | refine blk_alloc ?_ _)); refine blk_far ?_ NB313_319.out _; (with_reducible repeat (first | refine blk_drewN ?_ _ | refine blk_drew ?_ | refine blk_alloc ?_ _)); refine blk_far ?_ NB313_319.out _; (with_reducible repeat (first | refine blk_drewN ?_ _ | refine blk_drew ?_ | refine blk_alloc ?_ _)); exact BK313.out) hb); have n1_ := Aside0.mk (blk_below (g := gb314) (o := .cells #[.int .u64 a1_0, .int .u64 a1_1] 25 (0, 0)) (by (with_reducible repeat (first | refine blk_drewN ?_ _ | refine blk_drew ?_ | refine blk_alloc ?_ _)); refine blk_far ?_ NB314_319.out _; (with_reducible repeat (first | refine blk_drewN ?_ _ | refine blk_drew ?_ | refine blk_alloc ?_ _)); refine blk_far ?_ NB314_319.out _; (with_reducible repeat (first | refine blk_drewN ?_ _ | refine blk_drew ?_ | refine blk_alloc ?_ _)); exact BK314.out) hb); have n2_ := Aside0.mk (blk_below (g := gb319) (o := .cells #[.int .u64 t316, .int .u64 t317] 25 (0, 0)) (by (with_reducible repeat (first | refine blk_drewN ?_ _ | refine blk_drew ?_ | refine blk_alloc ?_ _)); refine blk_put (cs := #[.int .u64 t316, .int .u64 0]) ?_ 1 _ rfl; (with_reducible repeat (first | refine blk_drewN ?_ _ | refine blk_drew ?_ | refine blk_alloc ?_ _)); refine blk_put (cs := #[.int .u64 0, .int .u64 0]) ?_ 0 _ rfl; (with_reducible repeat (first | refine blk_drewN ?_ _ | refine blk_drew ?_ | refine blk_alloc ?_ _)); exact BK319.out) hb); have n3_ := Aside0.mk (below_step bA hb); clear BK313 BK314 BK319 HB; have BK313 := n0_; have BK314 := n1_; have BK319 := n2_; have HB := n3_; clear n0_ n1_ n2_ n3_; (try clear hb)) | ((with_reducible refine gate_dst (N := 10) rfl ?_); refine bxA 10 #[.int .u64 0, .int .u64 0] 25 ?_; intro gb323 hg w21 hbox hb; have n0_ := Aside0.mk (blk_below (g := gb313) (o := .cells #[.int .u64 a0_0, .int .u64 a0_1] 25 (0, 0)) kA hb); have n1_ := Aside0.mk (blk_below (g := gb314) (o := .cells #[.int .u64 a1_0, .int .u64 a1_1] 25 (0, 0)) kA hb); have n2_ := Aside0.mk (blk_below (g := gb319) (o := .cells #[.int .u64 t316, .int .u64 t317] 25 (0, 0)) kA hb); have n3_ := Aside0.mk (below_step bA hb); have n4_ := Aside0.mk (hbox); have n5_ := Aside0.mk ((by rw [hg]; exact (below_size bA) : w.heap.size ≤ gb323)); have n6_ := Aside0.mk ((by rw [hg]; exact (below_size bA) : w.heap.size ≤ gb323)); have n7_ := Aside0.mk ((by rw [hg]; exact Nat.ne_of_lt (blk_lt (g := gb313) (o := .cells #[.int .u64 a0_0, .int .u64 a0_1] 25 (0, 0)) kA) : gb313 ≠ gb323)); have n8_ := Aside0.mk ((by rw [hg]; exact Nat.ne_of_gt (blk_lt (g := gb313) (o := .cells #[.int .u64 a0_0, .int .u64 a0_1] 25 (0, 0)) kA) : gb323 ≠ gb313)); have n9_ := Aside0.mk ((by rw [hg]; exact Nat.ne_of_lt (blk_lt (g := gb314) (o := .cells #[.int .u64 a1_0, .int .u64 a1_1] 25 (0, 0)) kA) : gb314 ≠ gb323)); have n10_ := Aside0.mk ((by rw [hg]; exact Nat.ne_of_gt (blk_lt (g := gb314) (o := .cells #[.int .u64 a1_0, .int .u64 a1_1] 25 (0, 0)) kA) : gb323 ≠ gb314)); have n11_ := Aside0.mk ((by rw [hg]; exact Nat.ne_of_lt (blk_lt (g := gb319) (o := .cells #[.int .u64 t316, .int .u64 t317] 25 (0, 0)) kA) : gb319 ≠ gb323)); have n12_ := Aside0.mk ((by rw [hg]; exact Nat.ne_of_gt (blk_lt (g := gb319) (o := .cells #[.int .u64 t316, .int .u64 t317] 25 (0, 0)) kA) : gb323 ≠ gb319)); clear BK313 BK314 BK319 HB; have BK313 := n0_; have BK314 := n1_; have BK319 := n2_; have HB := n3_; have BK323 := n4_; have GW323 := n5_; have GE323 := n6_; have NB313_323 := n7_; have NB323_313 := n8_; have NB314_323 := n9_; have NB323_314 := n10_; have NB319_323 := n11_; have NB323_319 := n12_; clear n0_ n1_ n2_ n3_ n4_ n5_ n6_ n7_ n8_ n9_ n10_ n11_ n12_ hb hbox hg; have hnb22 := NB323_313.out; have hnc22 := NB313_323.out; have hnb23 := NB323_314.out; have hnc23 := NB314_323.out; have hnb24 := NB323_319.out; have hnc24 := NB319_323.out; have hcz25_0 : w21.cell? ⟨gb323, 0, none⟩ = some (.int .u64 0) := (blk_cell BK323.out 0).trans rfl; have hcz25_1 : w21.cell? ⟨gb323, 1, none⟩ = some (.int .u64 0) := (blk_cell BK323.out 1).trans rfl; have hfz25_0 := blk_frozen BK323.out 0; have hfz25_1 := blk_frozen BK323.out 1))
 (try simp only [Act.put, List.setIfInBounds_toArray, List.set_cons_zero, List.set_cons_succ])
 go_cut [48] (fun v48 wc => ∃ (kq : Nat) (x48_6 : Bool), v48 = .bool x48_6 ∧ Aside0 (backfilllaw01_WideBack.j0 kq a2 t315 x48_6 a0_0 a0_1 a1_0 a1_1 = some r) ∧ Aside0 (kq ≤ k) ∧ Aside0 (wc.heap[gb313]? = some (.cells #[.int .u64 a0_0, .int .u64 a0_1] 25 (0, 0))) ∧ Aside0 (wc.heap[gb314]? = some (.cells #[.int .u64 a1_0, .int .u64 a1_1] 25 (0, 0))) ∧ Aside0 (wc.heap[gb319]? = some (.cells #[.int .u64 t316, .int .u64 t317] 25 (0, 0))) ∧ Aside0 (wc.heap[gb323]? = some (.cells #[.int .u64 t320, .int .u64 t321] 25 (0, 0))) ∧ Aside0 (Below w.heap.size w wc))
 case first =>
  have H := HC7.out
  clear HC7
  by_cases c26 : t318 = true
  ·subst c26
   have H1 : (if (!(t320 == a0_0) || (!(t321 == a0_1))) = true then (backfilllaw01_WideBack.j0 k a2 t315 true a0_0 a0_1 a1_0 a1_1) else ((wide_Cmp.f t316 t317 a0_0 a0_1).bind fun t324 => (backfilllaw01_WideBack.j0 k a2 t315 (decide (t324 < 0)) a0_0 a0_1 a1_0 a1_1))) = some r := by rw [if_pos rfl] at H; exact H
   clear H
   have H := H1
   clear H1
   by_cases c27 : (!(t320 == a0_0) || (!(t321 == a0_1))) = true
   ·rw [if_pos c27] at H
    have c27b0 : (!(t320 == a0_0) || (!(t321 == a0_1))) = true := c27
    clear c27
    (first | rw [c27b0] | (simp only [i64_w, i32_w]; rw [c27b0]) | skip)
    have H' := Aside0.mk H
    clear H
    have hnb28 := NB323_313.out
    have hnc28 := NB313_323.out
    have hnb29 := NB323_314.out
    have hnc29 := NB314_323.out
    have hnb30 := NB323_319.out
    have hnc30 := NB319_323.out
    have hcz31_0 : w21.cell? ⟨gb323, 0, none⟩ = some (.int .u64 0) := (blk_cell BK323.out 0).trans rfl
    have hcz31_1 : w21.cell? ⟨gb323, 1, none⟩ = some (.int .u64 0) := (blk_cell BK323.out 1).trans rfl
    have hfz31_0 := blk_frozen BK323.out 0
    have hfz31_1 := blk_frozen BK323.out 1
    have hnb32 := NB313_314.out
    have hnc32 := NB314_313.out
    have hnb33 := NB313_319.out
    have hnc33 := NB319_313.out
    have hcz34_0 : w21.cell? ⟨gb313, 0, none⟩ = some (.int .u64 a0_0) := (blk_cell BK313.out 0).trans rfl
    have hcz34_1 : w21.cell? ⟨gb313, 1, none⟩ = some (.int .u64 a0_1) := (blk_cell BK313.out 1).trans rfl
    have hfz34_0 := blk_frozen BK313.out 0
    have hfz34_1 := blk_frozen BK313.out 1
    go_wp2
    go_meet
    case rel => exact ⟨_, (true), (by first | rfl | (simp; done) | (simp [*]; done)), H', ⟨by first | omega | exact Nat.le_refl _⟩, ⟨by (with_reducible repeat (first | refine blk_drewN ?_ _ | refine blk_drew ?_ | refine blk_alloc ?_ _)); refine blk_far ?_ NB313_323.out _; (with_reducible repeat (first | refine blk_drewN ?_ _ | refine blk_drew ?_ | refine blk_alloc ?_ _)); refine blk_far ?_ NB313_323.out _; (with_reducible repeat (first | refine blk_drewN ?_ _ | refine blk_drew ?_ | refine blk_alloc ?_ _)); exact BK313.out⟩, ⟨by (with_reducible repeat (first | refine blk_drewN ?_ _ | refine blk_drew ?_ | refine blk_alloc ?_ _)); refine blk_far ?_ NB314_323.out _; (with_reducible repeat (first | refine blk_drewN ?_ _ | refine blk_drew ?_ | refine blk_alloc ?_ _)); refine blk_far ?_ NB314_323.out _; (with_reducible repeat (first | refine blk_drewN ?_ _ | refine blk_drew ?_ | refine blk_alloc ?_ _)); exact BK314.out⟩, ⟨by (with_reducible repeat (first | refine blk_drewN ?_ _ | refine blk_drew ?_ | refine blk_alloc ?_ _)); refine blk_far ?_ NB319_323.out _; (with_reducible repeat (first | refine blk_drewN ?_ _ | refine blk_drew ?_ | refine blk_alloc ?_ _)); refine blk_far ?_ NB319_323.out _; (with_reducible repeat (first | refine blk_drewN ?_ _ | refine blk_drew ?_ | refine blk_alloc ?_ _)); exact BK319.out⟩, ⟨by (with_reducible repeat (first | refine blk_drewN ?_ _ | refine blk_drew ?_ | refine blk_alloc ?_ _)); refine blk_put (cs := #[.int .u64 t320, .int .u64 0]) ?_ 1 _ rfl; (with_reducible repeat (first | refine blk_drewN ?_ _ | refine blk_drew ?_ | refine blk_alloc ?_ _)); refine blk_put (cs := #[.int .u64 0, .int .u64 0]) ?_ 0 _ rfl; (with_reducible repeat (first | refine blk_drewN ?_ _ | refine blk_drew ?_ | refine blk_alloc ?_ _)); exact BK323.out⟩, ⟨bA⟩⟩
   ·rw [if_neg c27] at H
    have c27b0 : (!(t320 == a0_0) || (!(t321 == a0_1))) = false := by simpa using c27
    clear c27
    (first | rw [c27b0] | (simp only [i64_w, i32_w]; rw [c27b0]) | skip)
    replace H := Option.bind_eq_some_iff.mp H; obtain ⟨t324, A350, H⟩ := H; replace H : (backfilllaw01_WideBack.j0 k a2 t315 (decide (t324 < 0)) a0_0 a0_1 a1_0 a1_1) = some r := H; have A35 := Aside0.mk A350; clear A350
    have H' := Aside0.mk H
    clear H
    have hnb36 := NB323_313.out
    have hnc36 := NB313_323.out
    have hnb37 := NB323_314.out
    have hnc37 := NB314_323.out
    have hnb38 := NB323_319.out
    have hnc38 := NB319_323.out
    have hcz39_0 : w21.cell? ⟨gb323, 0, none⟩ = some (.int .u64 0) := (blk_cell BK323.out 0).trans rfl
    have hcz39_1 : w21.cell? ⟨gb323, 1, none⟩ = some (.int .u64 0) := (blk_cell BK323.out 1).trans rfl
    have hfz39_0 := blk_frozen BK323.out 0
    have hfz39_1 := blk_frozen BK323.out 1
    have hnb40 := NB313_314.out
    have hnc40 := NB314_313.out
    have hnb41 := NB313_319.out
    have hnc41 := NB319_313.out
    have hcz42_0 : w21.cell? ⟨gb313, 0, none⟩ = some (.int .u64 a0_0) := (blk_cell BK313.out 0).trans rfl
    have hcz42_1 : w21.cell? ⟨gb313, 1, none⟩ = some (.int .u64 a0_1) := (blk_cell BK313.out 1).trans rfl
    have hfz42_0 := blk_frozen BK313.out 0
    have hfz42_1 := blk_frozen BK313.out 1
    have hnb43 := NB319_314.out
    have hnc43 := NB314_319.out
    have hcz44_0 : w21.cell? ⟨gb319, 0, none⟩ = some (.int .u64 t316) := (blk_cell BK319.out 0).trans rfl
    have hcz44_1 : w21.cell? ⟨gb319, 1, none⟩ = some (.int .u64 t317) := (blk_cell BK319.out 1).trans rfl
    have hfz44_0 := blk_frozen BK319.out 0
    have hfz44_1 := blk_frozen BK319.out 1
    go_wp2_with (first | (go_at_call 45; (with_reducible refine (wide_Cmp.calls t316 t317 a0_0 a0_1 t324 _ A35.out).mono ?_); rintro e w45 ⟨rfl, hb⟩; have n0_ := Aside0.mk (blk_below (g := gb313) (o := .cells #[.int .u64 a0_0, .int .u64 a0_1] 25 (0, 0)) (by (with_reducible repeat (first | refine blk_drewN ?_ _ | refine blk_drew ?_ | refine blk_alloc ?_ _)); refine blk_far ?_ NB313_323.out _; (with_reducible repeat (first | refine blk_drewN ?_ _ | refine blk_drew ?_ | refine blk_alloc ?_ _)); refine blk_far ?_ NB313_323.out _; (with_reducible repeat (first | refine blk_drewN ?_ _ | refine blk_drew ?_ | refine blk_alloc ?_ _)); exact BK313.out) hb); have n1_ := Aside0.mk (blk_below (g := gb314) (o := .cells #[.int .u64 a1_0, .int .u64 a1_1] 25 (0, 0)) (by (with_reducible repeat (first | refine blk_drewN ?_ _ | refine blk_drew ?_ | refine blk_alloc ?_ _)); refine blk_far ?_ NB314_323.out _; (with_reducible repeat (first | refine blk_drewN ?_ _ | refine blk_drew ?_ | refine blk_alloc ?_ _)); refine blk_far ?_ NB314_323.out _; (with_reducible repeat (first | refine blk_drewN ?_ _ | refine blk_drew ?_ | refine blk_alloc ?_ _)); exact BK314.out) hb); have n2_ := Aside0.mk (blk_below (g := gb319) (o := .cells #[.int .u64 t316, .int .u64 t317] 25 (0, 0)) (by (with_reducible repeat (first | refine blk_drewN ?_ _ | refine blk_drew ?_ | refine blk_alloc ?_ _)); refine blk_far ?_ NB319_323.out _; (with_reducible repeat (first | refine blk_drewN ?_ _ | refine blk_drew ?_ | refine blk_alloc ?_ _)); refine blk_far ?_ NB319_323.out _; (with_reducible repeat (first | refine blk_drewN ?_ _ | refine blk_drew ?_ | refine blk_alloc ?_ _)); exact BK319.out) hb); have n3_ := Aside0.mk (blk_below (g := gb323) (o := .cells #[.int .u64 t320, .int .u64 t321] 25 (0, 0)) (by (with_reducible repeat (first | refine blk_drewN ?_ _ | refine blk_drew ?_ | refine blk_alloc ?_ _)); refine blk_put (cs := #[.int .u64 t320, .int .u64 0]) ?_ 1 _ rfl; (with_reducible repeat (first | refine blk_drewN ?_ _ | refine blk_drew ?_ | refine blk_alloc ?_ _)); refine blk_put (cs := #[.int .u64 0, .int .u64 0]) ?_ 0 _ rfl; (with_reducible repeat (first | refine blk_drewN ?_ _ | refine blk_drew ?_ | refine blk_alloc ?_ _)); exact BK323.out) hb); have n4_ := Aside0.mk (below_step bA hb); clear BK313 BK314 BK319 BK323 HB; have BK313 := n0_; have BK314 := n1_; have BK319 := n2_; have BK323 := n3_; have HB := n4_; clear n0_ n1_ n2_ n3_ n4_; (try clear hb)))
    go_meet
    case rel => exact ⟨_, (decide (t324 < 0)), (by first | rfl | (simp; done) | (simp [*]; done)), H', ⟨by first | omega | exact Nat.le_refl _⟩, ⟨by (with_reducible repeat (first | refine blk_drewN ?_ _ | refine blk_drew ?_ | refine blk_alloc ?_ _)); exact BK313.out⟩, ⟨by (with_reducible repeat (first | refine blk_drewN ?_ _ | refine blk_drew ?_ | refine blk_alloc ?_ _)); exact BK314.out⟩, ⟨by (with_reducible repeat (first | refine blk_drewN ?_ _ | refine blk_drew ?_ | refine blk_alloc ?_ _)); exact BK319.out⟩, ⟨by (with_reducible repeat (first | refine blk_drewN ?_ _ | refine blk_drew ?_ | refine blk_alloc ?_ _)); exact BK323.out⟩, ⟨bA⟩⟩
  ·replace c26 := Bool.eq_false_iff.mpr c26
   subst c26
   have H1 : (backfilllaw01_WideBack.j0 k a2 t315 false a0_0 a0_1 a1_0 a1_1) = some r := by rw [if_neg (show ¬ (false = true) by decide)] at H; exact H
   clear H
   have H := H1
   clear H1
   have H' := Aside0.mk H
   clear H
   go_wp2
   go_meet
   case rel => exact ⟨_, (false), (by first | rfl | (simp; done) | (simp [*]; done)), H', ⟨by first | omega | exact Nat.le_refl _⟩, ⟨by (with_reducible repeat (first | refine blk_drewN ?_ _ | refine blk_drew ?_ | refine blk_alloc ?_ _)); refine blk_far ?_ NB313_323.out _; (with_reducible repeat (first | refine blk_drewN ?_ _ | refine blk_drew ?_ | refine blk_alloc ?_ _)); refine blk_far ?_ NB313_323.out _; (with_reducible repeat (first | refine blk_drewN ?_ _ | refine blk_drew ?_ | refine blk_alloc ?_ _)); exact BK313.out⟩, ⟨by (with_reducible repeat (first | refine blk_drewN ?_ _ | refine blk_drew ?_ | refine blk_alloc ?_ _)); refine blk_far ?_ NB314_323.out _; (with_reducible repeat (first | refine blk_drewN ?_ _ | refine blk_drew ?_ | refine blk_alloc ?_ _)); refine blk_far ?_ NB314_323.out _; (with_reducible repeat (first | refine blk_drewN ?_ _ | refine blk_drew ?_ | refine blk_alloc ?_ _)); exact BK314.out⟩, ⟨by (with_reducible repeat (first | refine blk_drewN ?_ _ | refine blk_drew ?_ | refine blk_alloc ?_ _)); refine blk_far ?_ NB319_323.out _; (with_reducible repeat (first | refine blk_drewN ?_ _ | refine blk_drew ?_ | refine blk_alloc ?_ _)); refine blk_far ?_ NB319_323.out _; (with_reducible repeat (first | refine blk_drewN ?_ _ | refine blk_drew ?_ | refine blk_alloc ?_ _)); exact BK319.out⟩, ⟨by (with_reducible repeat (first | refine blk_drewN ?_ _ | refine blk_drew ?_ | refine blk_alloc ?_ _)); refine blk_put (cs := #[.int .u64 t320, .int .u64 0]) ?_ 1 _ rfl; (with_reducible repeat (first | refine blk_drewN ?_ _ | refine blk_drew ?_ | refine blk_alloc ?_ _)); refine blk_put (cs := #[.int .u64 0, .int .u64 0]) ?_ 0 _ rfl; (with_reducible repeat (first | refine blk_drewN ?_ _ | refine blk_drew ?_ | refine blk_alloc ?_ _)); exact BK323.out⟩, ⟨bA⟩⟩
 case rest =>
  clear HC7
  try clear c1
  try clear c2
  try clear p2
  try clear c3
  try clear c4
  try clear c11
  try clear c13
  try clear c16
  try clear c17
  try clear c22
  try clear c23
  try clear c24
  try clear c26
  try clear c27
  try clear c27b0
  try clear c28
  try clear c29
  try clear c30
  try clear c32
  try clear c33
  try clear c36
  try clear c37
  try clear c38
  try clear c40
  try clear c41
  try clear c43
  try clear hcz12_0
  try clear hcz12_1
  try clear hcz13_0
  try clear hcz13_1
  try clear hcz18_0
  try clear hcz18_1
  try clear hcz19_0
  try clear hcz19_1
  try clear hcz25_0
  try clear hcz25_1
  try clear hcz31_0
  try clear hcz31_1
  try clear hcz34_0
  try clear hcz34_1
  try clear hcz39_0
  try clear hcz39_1
  try clear hcz42_0
  try clear hcz42_1
  try clear hcz44_0
  try clear hcz44_1
  try clear hfz12_0
  try clear hfz12_1
  try clear hfz13_0
  try clear hfz13_1
  try clear hfz18_0
  try clear hfz18_1
  try clear hfz19_0
  try clear hfz19_1
  try clear hfz25_0
  try clear hfz25_1
  try clear hfz31_0
  try clear hfz31_1
  try clear hfz34_0
  try clear hfz34_1
  try clear hfz39_0
  try clear hfz39_1
  try clear hfz42_0
  try clear hfz42_1
  try clear hfz44_0
  try clear hfz44_1
  obtain ⟨kq, x48_6, rfl, HA, HJ6, BK313, BK314, BK319, BK323, HB⟩ := hcut
  cases kq with
  | zero => exact absurd HA.out (by simp [backfilllaw01_WideBack.j0])
  | succ kj6 =>
   have H := HA.out
   clear HA
   simp only [backfilllaw01_WideBack.j0] at H
   by_cases c46 : x48_6 = true
   ·subst c46
    have H1 : (none) = some r := by rw [if_pos rfl] at H; exact H
    clear H
    have H := H1
    clear H1
    exact absurd H (by simp)
   ·replace c46 := Bool.eq_false_iff.mpr c46
    subst c46
    have H1 : ((wide_Div.f kj6 a0_0 a0_1 a1_1).bind fun bt325 => (if (bt325.2.2.2 != (a1_1 != 0)) = true then (backfilllaw01_WideBack.j1 kj6 a2 t315 bt325.2.2.1 bt325.2.2.2 true a0_0 a0_1 a1_0 a1_1 bt325.1 bt325.2.1) else (if bt325.2.2.2 = true then (backfilllaw01_WideBack.j1 kj6 a2 t315 bt325.2.2.1 bt325.2.2.2 (decide (bt325.2.2.1 ≥ a1_1)) a0_0 a0_1 a1_0 a1_1 bt325.1 bt325.2.1) else (backfilllaw01_WideBack.j1 kj6 a2 t315 bt325.2.2.1 bt325.2.2.2 false a0_0 a0_1 a1_0 a1_1 bt325.1 bt325.2.1)))) = some r := by rw [if_neg (show ¬ (false = true) by decide)] at H; exact H
    clear H
    have H := H1
    clear H1; replace H := Option.bind_eq_some_iff.mp H; obtain ⟨⟨t325, t326, t327, t328⟩, A470, H⟩ := H; replace H : (if (t328 != (a1_1 != 0)) = true then (backfilllaw01_WideBack.j1 kj6 a2 t315 t327 t328 true a0_0 a0_1 a1_0 a1_1 t325 t326) else (if t328 = true then (backfilllaw01_WideBack.j1 kj6 a2 t315 t327 t328 (decide (t327 ≥ a1_1)) a0_0 a0_1 a1_0 a1_1 t325 t326) else (backfilllaw01_WideBack.j1 kj6 a2 t315 t327 t328 false a0_0 a0_1 a1_0 a1_1 t325 t326))) = some r := H; have A47 := Aside0.mk A470; clear A470
    have HC48 := Aside0.mk H
    clear H
    have hnb49 := NB313_314.out
    have hnc49 := NB314_313.out
    have hnb50 := NB313_319.out
    have hnc50 := NB319_313.out
    have hnb51 := NB313_323.out
    have hnc51 := NB323_313.out
    have hcz52_0 : wc.cell? ⟨gb313, 0, none⟩ = some (.int .u64 a0_0) := (blk_cell BK313.out 0).trans rfl
    have hcz52_1 : wc.cell? ⟨gb313, 1, none⟩ = some (.int .u64 a0_1) := (blk_cell BK313.out 1).trans rfl
    have hfz52_0 := blk_frozen BK313.out 0
    have hfz52_1 := blk_frozen BK313.out 1
    have hnb53 := NB314_319.out
    have hnc53 := NB319_314.out
    have hnb54 := NB314_323.out
    have hnc54 := NB323_314.out
    have hcz55_0 : wc.cell? ⟨gb314, 0, none⟩ = some (.int .u64 a1_0) := (blk_cell BK314.out 0).trans rfl
    have hcz55_1 : wc.cell? ⟨gb314, 1, none⟩ = some (.int .u64 a1_1) := (blk_cell BK314.out 1).trans rfl
    have hfz55_0 := blk_frozen BK314.out 0
    have hfz55_1 := blk_frozen BK314.out 1
    go_upto_region 7 with (first | ((with_reducible refine gate_callee (f := 14) rfl ?_); refine goesL_ (some 53) rfl rfl Try.func14 (by kernel_rfl) rfl #[.agg #[.int .u64 a0_0, .int .u64 a0_1], .int .u64 a1_1] rfl aA ?_; (with_reducible refine (wide_Div.calls kj6 a0_0 a0_1 a1_1 t325 t326 t327 t328 _ A47.out).mono ?_); rintro e w56 ⟨rfl, hb⟩; refine ⟨_, rfl, ?_⟩; have n0_ := Aside0.mk (blk_below (g := gb313) (o := .cells #[.int .u64 a0_0, .int .u64 a0_1] 25 (0, 0)) kA hb); have n1_ := Aside0.mk (blk_below (g := gb314) (o := .cells #[.int .u64 a1_0, .int .u64 a1_1] 25 (0, 0)) kA hb); have n2_ := Aside0.mk (blk_below (g := gb319) (o := .cells #[.int .u64 t316, .int .u64 t317] 25 (0, 0)) kA hb); have n3_ := Aside0.mk (blk_below (g := gb323) (o := .cells #[.int .u64 t320, .int .u64 t321] 25 (0, 0)) kA hb); have n4_ := Aside0.mk (below_step bA hb); clear BK313 BK314 BK319 BK323 HB; have BK313 := n0_; have BK314 := n1_; have BK319 := n2_; have BK323 := n3_; have HB := n4_; clear n0_ n1_ n2_ n3_ n4_; (try clear hb)) | ((with_reducible refine gate_dst (N := 12) rfl ?_); refine bxA 12 #[.int .u64 0, .int .u64 0] 25 ?_; intro gb329 hg w57 hbox hb; have n0_ := Aside0.mk (blk_below (g := gb313) (o := .cells #[.int .u64 a0_0, .int .u64 a0_1] 25 (0, 0)) kA hb); have n1_ := Aside0.mk (blk_below (g := gb314) (o := .cells #[.int .u64 a1_0, .int .u64 a1_1] 25 (0, 0)) kA hb); have n2_ := Aside0.mk (blk_below (g := gb319) (o := .cells #[.int .u64 t316, .int .u64 t317] 25 (0, 0)) kA hb); have n3_ := Aside0.mk (blk_below (g := gb323) (o := .cells #[.int .u64 t320, .int .u64 t321] 25 (0, 0)) kA hb); have n4_ := Aside0.mk (below_step bA hb); have n5_ := Aside0.mk (hbox); have n6_ := Aside0.mk ((by rw [hg]; exact (below_size bA) : w.heap.size ≤ gb329)); have n7_ := Aside0.mk ((by rw [hg]; exact (below_size bA) : w.heap.size ≤ gb329)); have n8_ := Aside0.mk ((by rw [hg]; exact Nat.ne_of_lt (blk_lt (g := gb313) (o := .cells #[.int .u64 a0_0, .int .u64 a0_1] 25 (0, 0)) kA) : gb313 ≠ gb329)); have n9_ := Aside0.mk ((by rw [hg]; exact Nat.ne_of_gt (blk_lt (g := gb313) (o := .cells #[.int .u64 a0_0, .int .u64 a0_1] 25 (0, 0)) kA) : gb329 ≠ gb313)); have n10_ := Aside0.mk ((by rw [hg]; exact Nat.ne_of_lt (blk_lt (g := gb314) (o := .cells #[.int .u64 a1_0, .int .u64 a1_1] 25 (0, 0)) kA) : gb314 ≠ gb329)); have n11_ := Aside0.mk ((by rw [hg]; exact Nat.ne_of_gt (blk_lt (g := gb314) (o := .cells #[.int .u64 a1_0, .int .u64 a1_1] 25 (0, 0)) kA) : gb329 ≠ gb314)); have n12_ := Aside0.mk ((by rw [hg]; exact Nat.ne_of_lt (blk_lt (g := gb319) (o := .cells #[.int .u64 t316, .int .u64 t317] 25 (0, 0)) kA) : gb319 ≠ gb329)); have n13_ := Aside0.mk ((by rw [hg]; exact Nat.ne_of_gt (blk_lt (g := gb319) (o := .cells #[.int .u64 t316, .int .u64 t317] 25 (0, 0)) kA) : gb329 ≠ gb319)); have n14_ := Aside0.mk ((by rw [hg]; exact Nat.ne_of_lt (blk_lt (g := gb323) (o := .cells #[.int .u64 t320, .int .u64 t321] 25 (0, 0)) kA) : gb323 ≠ gb329)); have n15_ := Aside0.mk ((by rw [hg]; exact Nat.ne_of_gt (blk_lt (g := gb323) (o := .cells #[.int .u64 t320, .int .u64 t321] 25 (0, 0)) kA) : gb329 ≠ gb323)); clear BK313 BK314 BK319 BK323 HB; have BK313 := n0_; have BK314 := n1_; have BK319 := n2_; have BK323 := n3_; have HB := n4_; have BK329 := n5_; have GW329 := n6_; have GE329 := n7_; have NB313_329 := n8_; have NB329_313 := n9_; have NB314_329 := n10_; have NB329_314 := n11_; have NB319_329 := n12_; have NB329_319 := n13_; have NB323_329 := n14_; have NB329_323 := n15_; clear n0_ n1_ n2_ n3_ n4_ n5_ n6_ n7_ n8_ n9_ n10_ n11_ n12_ n13_ n14_ n15_ hb hbox hg; have hnb58 := NB329_313.out; have hnc58 := NB313_329.out; have hnb59 := NB329_314.out; have hnc59 := NB314_329.out; have hnb60 := NB329_319.out; have hnc60 := NB319_329.out; have hnb61 := NB329_323.out; have hnc61 := NB323_329.out; have hcz62_0 : w57.cell? ⟨gb329, 0, none⟩ = some (.int .u64 0) := (blk_cell BK329.out 0).trans rfl; have hcz62_1 : w57.cell? ⟨gb329, 1, none⟩ = some (.int .u64 0) := (blk_cell BK329.out 1).trans rfl; have hfz62_0 := blk_frozen BK329.out 0; have hfz62_1 := blk_frozen BK329.out 1))
    (try simp only [Act.put, List.setIfInBounds_toArray, List.set_cons_zero, List.set_cons_succ])
    go_cut [70] (fun v70 wc => ∃ (kq : Nat) (x70_47 : Bool), v70 = .bool x70_47 ∧ Aside0 (backfilllaw01_WideBack.j1 kq a2 t315 t327 t328 x70_47 a0_0 a0_1 a1_0 a1_1 t325 t326 = some r) ∧ Aside0 (kq ≤ kj6) ∧ Aside0 (wc.heap[gb313]? = some (.cells #[.int .u64 a0_0, .int .u64 a0_1] 25 (0, 0))) ∧ Aside0 (wc.heap[gb314]? = some (.cells #[.int .u64 a1_0, .int .u64 a1_1] 25 (0, 0))) ∧ Aside0 (wc.heap[gb319]? = some (.cells #[.int .u64 t316, .int .u64 t317] 25 (0, 0))) ∧ Aside0 (wc.heap[gb323]? = some (.cells #[.int .u64 t320, .int .u64 t321] 25 (0, 0))) ∧ Aside0 (wc.heap[gb329]? = some (.cells #[.int .u64 t325, .int .u64 t326] 25 (0, 0))) ∧ Aside0 (Below w.heap.size w wc))
    case first =>
     have H := HC48.out
     clear HC48
     by_cases c63 : (t328 != (a1_1 != 0)) = true
     ·rw [if_pos c63] at H
      have c63b0 : (t328 != (a1_1 != 0)) = true := c63
      (try (have c63b1 : decide (t328 = (a1_1 != 0)) = false := by simpa using c63))
      (try (have c63b2 : (t328 == (a1_1 != 0)) = false := by simpa using c63))
      (try (have c63b3 : ¬ (t328 = (a1_1 != 0)) := by simpa using c63))
      clear c63
      (first | rw [c63b0] | (simp only [i64_w, i32_w]; rw [c63b0]) | skip)
      have H' := Aside0.mk H
      clear H
      have hnb64 := NB314_313.out
      have hnc64 := NB313_314.out
      have hnb65 := NB314_319.out
      have hnc65 := NB319_314.out
      have hnb66 := NB314_323.out
      have hnc66 := NB323_314.out
      have hnb67 := NB314_329.out
      have hnc67 := NB329_314.out
      have hcz68_0 : w57.cell? ⟨gb314, 0, none⟩ = some (.int .u64 a1_0) := (blk_cell BK314.out 0).trans rfl
      have hcz68_1 : w57.cell? ⟨gb314, 1, none⟩ = some (.int .u64 a1_1) := (blk_cell BK314.out 1).trans rfl
      have hfz68_0 := blk_frozen BK314.out 0
      have hfz68_1 := blk_frozen BK314.out 1
      go_wp2
      go_meet
      case rel => exact ⟨_, (true), (by first | rfl | (simp; done) | (simp [*]; done)), H', ⟨by have := HJ6.out; first | omega | exact Nat.le_refl _⟩, ⟨by (with_reducible repeat (first | refine blk_drewN ?_ _ | refine blk_drew ?_ | refine blk_alloc ?_ _)); refine blk_far ?_ NB313_329.out _; (with_reducible repeat (first | refine blk_drewN ?_ _ | refine blk_drew ?_ | refine blk_alloc ?_ _)); refine blk_far ?_ NB313_329.out _; (with_reducible repeat (first | refine blk_drewN ?_ _ | refine blk_drew ?_ | refine blk_alloc ?_ _)); exact BK313.out⟩, ⟨by (with_reducible repeat (first | refine blk_drewN ?_ _ | refine blk_drew ?_ | refine blk_alloc ?_ _)); refine blk_far ?_ NB314_329.out _; (with_reducible repeat (first | refine blk_drewN ?_ _ | refine blk_drew ?_ | refine blk_alloc ?_ _)); refine blk_far ?_ NB314_329.out _; (with_reducible repeat (first | refine blk_drewN ?_ _ | refine blk_drew ?_ | refine blk_alloc ?_ _)); exact BK314.out⟩, ⟨by (with_reducible repeat (first | refine blk_drewN ?_ _ | refine blk_drew ?_ | refine blk_alloc ?_ _)); refine blk_far ?_ NB319_329.out _; (with_reducible repeat (first | refine blk_drewN ?_ _ | refine blk_drew ?_ | refine blk_alloc ?_ _)); refine blk_far ?_ NB319_329.out _; (with_reducible repeat (first | refine blk_drewN ?_ _ | refine blk_drew ?_ | refine blk_alloc ?_ _)); exact BK319.out⟩, ⟨by (with_reducible repeat (first | refine blk_drewN ?_ _ | refine blk_drew ?_ | refine blk_alloc ?_ _)); refine blk_far ?_ NB323_329.out _; (with_reducible repeat (first | refine blk_drewN ?_ _ | refine blk_drew ?_ | refine blk_alloc ?_ _)); refine blk_far ?_ NB323_329.out _; (with_reducible repeat (first | refine blk_drewN ?_ _ | refine blk_drew ?_ | refine blk_alloc ?_ _)); exact BK323.out⟩, ⟨by (with_reducible repeat (first | refine blk_drewN ?_ _ | refine blk_drew ?_ | refine blk_alloc ?_ _)); refine blk_put (cs := #[.int .u64 t325, .int .u64 0]) ?_ 1 _ rfl; (with_reducible repeat (first | refine blk_drewN ?_ _ | refine blk_drew ?_ | refine blk_alloc ?_ _)); refine blk_put (cs := #[.int .u64 0, .int .u64 0]) ?_ 0 _ rfl; (with_reducible repeat (first | refine blk_drewN ?_ _ | refine blk_drew ?_ | refine blk_alloc ?_ _)); exact BK329.out⟩, ⟨bA⟩⟩
     ·rw [if_neg c63] at H
      have c63b0 : (t328 != (a1_1 != 0)) = false := by simpa using c63
      (try (have c63b1 : decide (t328 = (a1_1 != 0)) = true := by simpa using c63))
      (try (have c63b2 : (t328 == (a1_1 != 0)) = true := by simpa using c63))
      clear c63
      (first | rw [c63b0] | (simp only [i64_w, i32_w]; rw [c63b0]) | skip)
      by_cases c69 : t328 = true
      ·subst c69
       have H1 : (backfilllaw01_WideBack.j1 kj6 a2 t315 t327 true (decide (t327 ≥ a1_1)) a0_0 a0_1 a1_0 a1_1 t325 t326) = some r := by rw [if_pos rfl] at H; exact H
       clear H
       have H := H1
       clear H1
       have H' := Aside0.mk H
       clear H
       have hnb70 := NB314_313.out
       have hnc70 := NB313_314.out
       have hnb71 := NB314_319.out
       have hnc71 := NB319_314.out
       have hnb72 := NB314_323.out
       have hnc72 := NB323_314.out
       have hnb73 := NB314_329.out
       have hnc73 := NB329_314.out
       have hcz74_0 : w57.cell? ⟨gb314, 0, none⟩ = some (.int .u64 a1_0) := (blk_cell BK314.out 0).trans rfl
       have hcz74_1 : w57.cell? ⟨gb314, 1, none⟩ = some (.int .u64 a1_1) := (blk_cell BK314.out 1).trans rfl
       have hfz74_0 := blk_frozen BK314.out 0
       have hfz74_1 := blk_frozen BK314.out 1
       go_wp2
       go_meet
       case rel => exact ⟨_, (decide (t327 ≥ a1_1)), (by first | rfl | (simp; done) | (simp [*]; done)), H', ⟨by have := HJ6.out; first | omega | exact Nat.le_refl _⟩, ⟨by (with_reducible repeat (first | refine blk_drewN ?_ _ | refine blk_drew ?_ | refine blk_alloc ?_ _)); refine blk_far ?_ NB313_329.out _; (with_reducible repeat (first | refine blk_drewN ?_ _ | refine blk_drew ?_ | refine blk_alloc ?_ _)); refine blk_far ?_ NB313_329.out _; (with_reducible repeat (first | refine blk_drewN ?_ _ | refine blk_drew ?_ | refine blk_alloc ?_ _)); exact BK313.out⟩, ⟨by (with_reducible repeat (first | refine blk_drewN ?_ _ | refine blk_drew ?_ | refine blk_alloc ?_ _)); refine blk_far ?_ NB314_329.out _; (with_reducible repeat (first | refine blk_drewN ?_ _ | refine blk_drew ?_ | refine blk_alloc ?_ _)); refine blk_far ?_ NB314_329.out _; (with_reducible repeat (first | refine blk_drewN ?_ _ | refine blk_drew ?_ | refine blk_alloc ?_ _)); exact BK314.out⟩, ⟨by (with_reducible repeat (first | refine blk_drewN ?_ _ | refine blk_drew ?_ | refine blk_alloc ?_ _)); refine blk_far ?_ NB319_329.out _; (with_reducible repeat (first | refine blk_drewN ?_ _ | refine blk_drew ?_ | refine blk_alloc ?_ _)); refine blk_far ?_ NB319_329.out _; (with_reducible repeat (first | refine blk_drewN ?_ _ | refine blk_drew ?_ | refine blk_alloc ?_ _)); exact BK319.out⟩, ⟨by (with_reducible repeat (first | refine blk_drewN ?_ _ | refine blk_drew ?_ | refine blk_alloc ?_ _)); refine blk_far ?_ NB323_329.out _; (with_reducible repeat (first | refine blk_drewN ?_ _ | refine blk_drew ?_ | refine blk_alloc ?_ _)); refine blk_far ?_ NB323_329.out _; (with_reducible repeat (first | refine blk_drewN ?_ _ | refine blk_drew ?_ | refine blk_alloc ?_ _)); exact BK323.out⟩, ⟨by (with_reducible repeat (first | refine blk_drewN ?_ _ | refine blk_drew ?_ | refine blk_alloc ?_ _)); refine blk_put (cs := #[.int .u64 t325, .int .u64 0]) ?_ 1 _ rfl; (with_reducible repeat (first | refine blk_drewN ?_ _ | refine blk_drew ?_ | refine blk_alloc ?_ _)); refine blk_put (cs := #[.int .u64 0, .int .u64 0]) ?_ 0 _ rfl; (with_reducible repeat (first | refine blk_drewN ?_ _ | refine blk_drew ?_ | refine blk_alloc ?_ _)); exact BK329.out⟩, ⟨bA⟩⟩
      ·replace c69 := Bool.eq_false_iff.mpr c69
       subst c69
       have H1 : (backfilllaw01_WideBack.j1 kj6 a2 t315 t327 false false a0_0 a0_1 a1_0 a1_1 t325 t326) = some r := by rw [if_neg (show ¬ (false = true) by decide)] at H; exact H
       clear H
       have H := H1
       clear H1
       have H' := Aside0.mk H
       clear H
       have hnb75 := NB314_313.out
       have hnc75 := NB313_314.out
       have hnb76 := NB314_319.out
       have hnc76 := NB319_314.out
       have hnb77 := NB314_323.out
       have hnc77 := NB323_314.out
       have hnb78 := NB314_329.out
       have hnc78 := NB329_314.out
       have hcz79_0 : w57.cell? ⟨gb314, 0, none⟩ = some (.int .u64 a1_0) := (blk_cell BK314.out 0).trans rfl
       have hcz79_1 : w57.cell? ⟨gb314, 1, none⟩ = some (.int .u64 a1_1) := (blk_cell BK314.out 1).trans rfl
       have hfz79_0 := blk_frozen BK314.out 0
       have hfz79_1 := blk_frozen BK314.out 1
       go_wp2
       go_meet
       case rel => exact ⟨_, (false), (by first | rfl | (simp; done) | (simp [*]; done)), H', ⟨by have := HJ6.out; first | omega | exact Nat.le_refl _⟩, ⟨by (with_reducible repeat (first | refine blk_drewN ?_ _ | refine blk_drew ?_ | refine blk_alloc ?_ _)); refine blk_far ?_ NB313_329.out _; (with_reducible repeat (first | refine blk_drewN ?_ _ | refine blk_drew ?_ | refine blk_alloc ?_ _)); refine blk_far ?_ NB313_329.out _; (with_reducible repeat (first | refine blk_drewN ?_ _ | refine blk_drew ?_ | refine blk_alloc ?_ _)); exact BK313.out⟩, ⟨by (with_reducible repeat (first | refine blk_drewN ?_ _ | refine blk_drew ?_ | refine blk_alloc ?_ _)); refine blk_far ?_ NB314_329.out _; (with_reducible repeat (first | refine blk_drewN ?_ _ | refine blk_drew ?_ | refine blk_alloc ?_ _)); refine blk_far ?_ NB314_329.out _; (with_reducible repeat (first | refine blk_drewN ?_ _ | refine blk_drew ?_ | refine blk_alloc ?_ _)); exact BK314.out⟩, ⟨by (with_reducible repeat (first | refine blk_drewN ?_ _ | refine blk_drew ?_ | refine blk_alloc ?_ _)); refine blk_far ?_ NB319_329.out _; (with_reducible repeat (first | refine blk_drewN ?_ _ | refine blk_drew ?_ | refine blk_alloc ?_ _)); refine blk_far ?_ NB319_329.out _; (with_reducible repeat (first | refine blk_drewN ?_ _ | refine blk_drew ?_ | refine blk_alloc ?_ _)); exact BK319.out⟩, ⟨by (with_reducible repeat (first | refine blk_drewN ?_ _ | refine blk_drew ?_ | refine blk_alloc ?_ _)); refine blk_far ?_ NB323_329.out _; (with_reducible repeat (first | refine blk_drewN ?_ _ | refine blk_drew ?_ | refine blk_alloc ?_ _)); refine blk_far ?_ NB323_329.out _; (with_reducible repeat (first | refine blk_drewN ?_ _ | refine blk_drew ?_ | refine blk_alloc ?_ _)); exact BK323.out⟩, ⟨by (with_reducible repeat (first | refine blk_drewN ?_ _ | refine blk_drew ?_ | refine blk_alloc ?_ _)); refine blk_put (cs := #[.int .u64 t325, .int .u64 0]) ?_ 1 _ rfl; (with_reducible repeat (first | refine blk_drewN ?_ _ | refine blk_drew ?_ | refine blk_alloc ?_ _)); refine blk_put (cs := #[.int .u64 0, .int .u64 0]) ?_ 0 _ rfl; (with_reducible repeat (first | refine blk_drewN ?_ _ | refine blk_drew ?_ | refine blk_alloc ?_ _)); exact BK329.out⟩, ⟨bA⟩⟩
    case rest =>
     clear HC48
     try clear c1
     try clear c2
     try clear p2
     try clear c3
     try clear c4
     try clear c5
     try clear c6
     try clear c7
     try clear c11
     try clear c13
     try clear c14
     try clear c16
     try clear c17
     try clear c22
     try clear c23
     try clear c24
     try clear c26
     try clear c27
     try clear c27b0
     try clear c28
     try clear c29
     try clear c30
     try clear c32
     try clear c33
     try clear c36
     try clear c37
     try clear c38
     try clear c40
     try clear c41
     try clear c43
     try clear c46
     try clear c49
     try clear c50
     try clear c51
     try clear c53
     try clear c54
     try clear c58
     try clear c59
     try clear c60
     try clear c61
     try clear c63
     try clear c63b0
     try clear c63b1
     try clear c63b2
     try clear c64
     try clear c65
     try clear c66
     try clear c67
     try clear c69
     try clear c70
     try clear c71
     try clear c72
     try clear c73
     try clear c75
     try clear c76
     try clear c77
     try clear c78
     try clear hcz12_0
     try clear hcz12_1
     try clear hcz13_0
     try clear hcz13_1
     try clear hcz18_0
     try clear hcz18_1
     try clear hcz19_0
     try clear hcz19_1
     try clear hcz25_0
     try clear hcz25_1
     try clear hcz31_0
     try clear hcz31_1
     try clear hcz34_0
     try clear hcz34_1
     try clear hcz39_0
     try clear hcz39_1
     try clear hcz42_0
     try clear hcz42_1
     try clear hcz44_0
     try clear hcz44_1
     try clear hcz52_0
     try clear hcz52_1
     try clear hcz55_0
     try clear hcz55_1
     try clear hcz62_0
     try clear hcz62_1
     try clear hcz68_0
     try clear hcz68_1
     try clear hcz74_0
     try clear hcz74_1
     try clear hcz79_0
     try clear hcz79_1
     try clear hfz12_0
     try clear hfz12_1
     try clear hfz13_0
     try clear hfz13_1
     try clear hfz18_0
     try clear hfz18_1
     try clear hfz19_0
     try clear hfz19_1
     try clear hfz25_0
     try clear hfz25_1
     try clear hfz31_0
     try clear hfz31_1
     try clear hfz34_0
     try clear hfz34_1
     try clear hfz39_0
     try clear hfz39_1
     try clear hfz42_0
     try clear hfz42_1
     try clear hfz44_0
     try clear hfz44_1
     try clear hfz52_0
     try clear hfz52_1
     try clear hfz55_0
     try clear hfz55_1
     try clear hfz62_0
     try clear hfz62_1
     try clear hfz68_0
     try clear hfz68_1
     try clear hfz74_0
     try clear hfz74_1
     try clear hfz79_0
     try clear hfz79_1
     try clear p2
     obtain ⟨kq, x70_47, rfl, HA, HJ47, BK313, BK314, BK319, BK323, BK329, HB⟩ := hcut
     cases kq with
     | zero => exact absurd HA.out (by simp [backfilllaw01_WideBack.j1])
     | succ kj47 =>
      have H := HA.out
      clear HA
      simp only [backfilllaw01_WideBack.j1] at H
      by_cases c80 : x70_47 = true
      ·subst c80
       have H1 : (none) = some r := by rw [if_pos rfl] at H; exact H
       clear H
       have H := H1
       clear H1
       exact absurd H (by simp)
      ·replace c80 := Bool.eq_false_iff.mpr c80
       subst c80
       have H1 : ((wide_Times.f t325 t326 a1_1).bind fun bt330 => ((wide_Of.f t327).bind fun bt334 => ((wide_Add.f bt330.1 bt330.2.1 bt334.1 bt334.2).bind fun bt336 => (if t328 = true then (if bt330.2.2 = true then (if bt336.2.2 = true then (backfilllaw01_WideBack.j2 kj47 a2 t315 (!(bt336.1 == a0_0) || (!(bt336.2.1 == a0_1))) a0_0 a0_1) else (backfilllaw01_WideBack.j2 kj47 a2 t315 true a0_0 a0_1)) else (backfilllaw01_WideBack.j2 kj47 a2 t315 true a0_0 a0_1)) else (backfilllaw01_WideBack.j2 kj47 a2 t315 false a0_0 a0_1))))) = some r := by rw [if_neg (show ¬ (false = true) by decide)] at H; exact H
       clear H
       have H := H1
       clear H1; replace H := Option.bind_eq_some_iff.mp H; obtain ⟨⟨t330, t331, t332⟩, A810, H⟩ := H; replace H : ((wide_Of.f t327).bind fun bt334 => ((wide_Add.f t330 t331 bt334.1 bt334.2).bind fun bt336 => (if t328 = true then (if t332 = true then (if bt336.2.2 = true then (backfilllaw01_WideBack.j2 kj47 a2 t315 (!(bt336.1 == a0_0) || (!(bt336.2.1 == a0_1))) a0_0 a0_1) else (backfilllaw01_WideBack.j2 kj47 a2 t315 true a0_0 a0_1)) else (backfilllaw01_WideBack.j2 kj47 a2 t315 true a0_0 a0_1)) else (backfilllaw01_WideBack.j2 kj47 a2 t315 false a0_0 a0_1)))) = some r := H; have A81 := Aside0.mk A810; clear A810; replace H := Option.bind_eq_some_iff.mp H; obtain ⟨⟨t334, t335⟩, A820, H⟩ := H; replace H : ((wide_Add.f t330 t331 t334 t335).bind fun bt336 => (if t328 = true then (if t332 = true then (if bt336.2.2 = true then (backfilllaw01_WideBack.j2 kj47 a2 t315 (!(bt336.1 == a0_0) || (!(bt336.2.1 == a0_1))) a0_0 a0_1) else (backfilllaw01_WideBack.j2 kj47 a2 t315 true a0_0 a0_1)) else (backfilllaw01_WideBack.j2 kj47 a2 t315 true a0_0 a0_1)) else (backfilllaw01_WideBack.j2 kj47 a2 t315 false a0_0 a0_1))) = some r := H; have A82 := Aside0.mk A820; clear A820; replace H := Option.bind_eq_some_iff.mp H; obtain ⟨⟨t336, t337, t338⟩, A830, H⟩ := H; replace H : (if t328 = true then (if t332 = true then (if t338 = true then (backfilllaw01_WideBack.j2 kj47 a2 t315 (!(t336 == a0_0) || (!(t337 == a0_1))) a0_0 a0_1) else (backfilllaw01_WideBack.j2 kj47 a2 t315 true a0_0 a0_1)) else (backfilllaw01_WideBack.j2 kj47 a2 t315 true a0_0 a0_1)) else (backfilllaw01_WideBack.j2 kj47 a2 t315 false a0_0 a0_1)) = some r := H; have A83 := Aside0.mk A830; clear A830
       have HC84 := Aside0.mk H
       clear H
       have hnb85 := NB329_313.out
       have hnc85 := NB313_329.out
       have hnb86 := NB329_314.out
       have hnc86 := NB314_329.out
       have hnb87 := NB329_319.out
       have hnc87 := NB319_329.out
       have hnb88 := NB329_323.out
       have hnc88 := NB323_329.out
       have hcz89_0 : wc.cell? ⟨gb329, 0, none⟩ = some (.int .u64 t325) := (blk_cell BK329.out 0).trans rfl
       have hcz89_1 : wc.cell? ⟨gb329, 1, none⟩ = some (.int .u64 t326) := (blk_cell BK329.out 1).trans rfl
       have hfz89_0 := blk_frozen BK329.out 0
       have hfz89_1 := blk_frozen BK329.out 1
       have hnb90 := NB314_313.out
       have hnc90 := NB313_314.out
       have hnb91 := NB314_319.out
       have hnc91 := NB319_314.out
       have hnb92 := NB314_323.out
       have hnc92 := NB323_314.out
       have hcz93_0 : wc.cell? ⟨gb314, 0, none⟩ = some (.int .u64 a1_0) := (blk_cell BK314.out 0).trans rfl
       have hcz93_1 : wc.cell? ⟨gb314, 1, none⟩ = some (.int .u64 a1_1) := (blk_cell BK314.out 1).trans rfl
       have hfz93_0 := blk_frozen BK314.out 0
       have hfz93_1 := blk_frozen BK314.out 1
       try go_wp2_with (first | ((with_reducible refine gate_callee (f := 42) rfl ?_); refine goesL_ (some 75) rfl rfl Try.func42 (by kernel_rfl) rfl #[.agg #[.int .u64 t325, .int .u64 t326], .int .u64 a1_1] rfl aA ?_; (with_reducible refine (wide_Times.calls t325 t326 a1_1 t330 t331 t332 _ A81.out).mono ?_); rintro e w94 ⟨rfl, hb⟩; refine ⟨_, rfl, ?_⟩; have n0_ := Aside0.mk (blk_below (g := gb313) (o := .cells #[.int .u64 a0_0, .int .u64 a0_1] 25 (0, 0)) kA hb); have n1_ := Aside0.mk (blk_below (g := gb314) (o := .cells #[.int .u64 a1_0, .int .u64 a1_1] 25 (0, 0)) kA hb); have n2_ := Aside0.mk (blk_below (g := gb319) (o := .cells #[.int .u64 t316, .int .u64 t317] 25 (0, 0)) kA hb); have n3_ := Aside0.mk (blk_below (g := gb323) (o := .cells #[.int .u64 t320, .int .u64 t321] 25 (0, 0)) kA hb); have n4_ := Aside0.mk (blk_below (g := gb329) (o := .cells #[.int .u64 t325, .int .u64 t326] 25 (0, 0)) kA hb); have n5_ := Aside0.mk (below_step bA hb); clear BK313 BK314 BK319 BK323 BK329 HB; have BK313 := n0_; have BK314 := n1_; have BK319 := n2_; have BK323 := n3_; have BK329 := n4_; have HB := n5_; clear n0_ n1_ n2_ n3_ n4_ n5_; (try clear hb)) | ((with_reducible refine gate_dst (N := 15) rfl ?_); refine bxA 15 #[.int .u64 0, .int .u64 0] 25 ?_; intro gb333 hg w95 hbox hb; have n0_ := Aside0.mk (blk_below (g := gb313) (o := .cells #[.int .u64 a0_0, .int .u64 a0_1] 25 (0, 0)) kA hb); have n1_ := Aside0.mk (blk_below (g := gb314) (o := .cells #[.int .u64 a1_0, .int .u64 a1_1] 25 (0, 0)) kA hb); have n2_ := Aside0.mk (blk_below (g := gb319) (o := .cells #[.int .u64 t316, .int .u64 t317] 25 (0, 0)) kA hb); have n3_ := Aside0.mk (blk_below (g := gb323) (o := .cells #[.int .u64 t320, .int .u64 t321] 25 (0, 0)) kA hb); have n4_ := Aside0.mk (blk_below (g := gb329) (o := .cells #[.int .u64 t325, .int .u64 t326] 25 (0, 0)) kA hb); have n5_ := Aside0.mk (below_step bA hb); have n6_ := Aside0.mk (hbox); have n7_ := Aside0.mk ((by rw [hg]; exact (below_size bA) : w.heap.size ≤ gb333)); have n8_ := Aside0.mk ((by rw [hg]; exact (below_size bA) : w.heap.size ≤ gb333)); have n9_ := Aside0.mk ((by rw [hg]; exact Nat.ne_of_lt (blk_lt (g := gb313) (o := .cells #[.int .u64 a0_0, .int .u64 a0_1] 25 (0, 0)) kA) : gb313 ≠ gb333)); have n10_ := Aside0.mk ((by rw [hg]; exact Nat.ne_of_gt (blk_lt (g := gb313) (o := .cells #[.int .u64 a0_0, .int .u64 a0_1] 25 (0, 0)) kA) : gb333 ≠ gb313)); have n11_ := Aside0.mk ((by rw [hg]; exact Nat.ne_of_lt (blk_lt (g := gb314) (o := .cells #[.int .u64 a1_0, .int .u64 a1_1] 25 (0, 0)) kA) : gb314 ≠ gb333)); have n12_ := Aside0.mk ((by rw [hg]; exact Nat.ne_of_gt (blk_lt (g := gb314) (o := .cells #[.int .u64 a1_0, .int .u64 a1_1] 25 (0, 0)) kA) : gb333 ≠ gb314)); have n13_ := Aside0.mk ((by rw [hg]; exact Nat.ne_of_lt (blk_lt (g := gb319) (o := .cells #[.int .u64 t316, .int .u64 t317] 25 (0, 0)) kA) : gb319 ≠ gb333)); have n14_ := Aside0.mk ((by rw [hg]; exact Nat.ne_of_gt (blk_lt (g := gb319) (o := .cells #[.int .u64 t316, .int .u64 t317] 25 (0, 0)) kA) : gb333 ≠ gb319)); have n15_ := Aside0.mk ((by rw [hg]; exact Nat.ne_of_lt (blk_lt (g := gb323) (o := .cells #[.int .u64 t320, .int .u64 t321] 25 (0, 0)) kA) : gb323 ≠ gb333)); have n16_ := Aside0.mk ((by rw [hg]; exact Nat.ne_of_gt (blk_lt (g := gb323) (o := .cells #[.int .u64 t320, .int .u64 t321] 25 (0, 0)) kA) : gb333 ≠ gb323)); have n17_ := Aside0.mk ((by rw [hg]; exact Nat.ne_of_lt (blk_lt (g := gb329) (o := .cells #[.int .u64 t325, .int .u64 t326] 25 (0, 0)) kA) : gb329 ≠ gb333)); have n18_ := Aside0.mk ((by rw [hg]; exact Nat.ne_of_gt (blk_lt (g := gb329) (o := .cells #[.int .u64 t325, .int .u64 t326] 25 (0, 0)) kA) : gb333 ≠ gb329)); clear BK313 BK314 BK319 BK323 BK329 HB; have BK313 := n0_; have BK314 := n1_; have BK319 := n2_; have BK323 := n3_; have BK329 := n4_; have HB := n5_; have BK333 := n6_; have GW333 := n7_; have GE333 := n8_; have NB313_333 := n9_; have NB333_313 := n10_; have NB314_333 := n11_; have NB333_314 := n12_; have NB319_333 := n13_; have NB333_319 := n14_; have NB323_333 := n15_; have NB333_323 := n16_; have NB329_333 := n17_; have NB333_329 := n18_; clear n0_ n1_ n2_ n3_ n4_ n5_ n6_ n7_ n8_ n9_ n10_ n11_ n12_ n13_ n14_ n15_ n16_ n17_ n18_ hb hbox hg; have hnb96 := NB333_313.out; have hnc96 := NB313_333.out; have hnb97 := NB333_314.out; have hnc97 := NB314_333.out; have hnb98 := NB333_319.out; have hnc98 := NB319_333.out; have hnb99 := NB333_323.out; have hnc99 := NB323_333.out; have hnb100 := NB333_329.out; have hnc100 := NB329_333.out; have hcz101_0 : w95.cell? ⟨gb333, 0, none⟩ = some (.int .u64 0) := (blk_cell BK333.out 0).trans rfl; have hcz101_1 : w95.cell? ⟨gb333, 1, none⟩ = some (.int .u64 0) := (blk_cell BK333.out 1).trans rfl; have hfz101_0 := blk_frozen BK333.out 0; have hfz101_1 := blk_frozen BK333.out 1))
       have n0_ : Aside0 (((w95.setCell ⟨gb333, 0, none⟩ (.int .u64 t330)).setCell ⟨gb333, 1, none⟩ (.int .u64 t331)).heap[gb313]? = some (.cells #[.int .u64 a0_0, .int .u64 a0_1] 25 (0, 0))) := ⟨by (with_reducible repeat (first | refine blk_drewN ?_ _ | refine blk_drew ?_ | refine blk_alloc ?_ _)); refine blk_far ?_ NB313_333.out _; (with_reducible repeat (first | refine blk_drewN ?_ _ | refine blk_drew ?_ | refine blk_alloc ?_ _)); refine blk_far ?_ NB313_333.out _; (with_reducible repeat (first | refine blk_drewN ?_ _ | refine blk_drew ?_ | refine blk_alloc ?_ _)); exact BK313.out⟩
       have n1_ : Aside0 (((w95.setCell ⟨gb333, 0, none⟩ (.int .u64 t330)).setCell ⟨gb333, 1, none⟩ (.int .u64 t331)).heap[gb314]? = some (.cells #[.int .u64 a1_0, .int .u64 a1_1] 25 (0, 0))) := ⟨by (with_reducible repeat (first | refine blk_drewN ?_ _ | refine blk_drew ?_ | refine blk_alloc ?_ _)); refine blk_far ?_ NB314_333.out _; (with_reducible repeat (first | refine blk_drewN ?_ _ | refine blk_drew ?_ | refine blk_alloc ?_ _)); refine blk_far ?_ NB314_333.out _; (with_reducible repeat (first | refine blk_drewN ?_ _ | refine blk_drew ?_ | refine blk_alloc ?_ _)); exact BK314.out⟩
       have n2_ : Aside0 (((w95.setCell ⟨gb333, 0, none⟩ (.int .u64 t330)).setCell ⟨gb333, 1, none⟩ (.int .u64 t331)).heap[gb319]? = some (.cells #[.int .u64 t316, .int .u64 t317] 25 (0, 0))) := ⟨by (with_reducible repeat (first | refine blk_drewN ?_ _ | refine blk_drew ?_ | refine blk_alloc ?_ _)); refine blk_far ?_ NB319_333.out _; (with_reducible repeat (first | refine blk_drewN ?_ _ | refine blk_drew ?_ | refine blk_alloc ?_ _)); refine blk_far ?_ NB319_333.out _; (with_reducible repeat (first | refine blk_drewN ?_ _ | refine blk_drew ?_ | refine blk_alloc ?_ _)); exact BK319.out⟩
       have n3_ : Aside0 (((w95.setCell ⟨gb333, 0, none⟩ (.int .u64 t330)).setCell ⟨gb333, 1, none⟩ (.int .u64 t331)).heap[gb323]? = some (.cells #[.int .u64 t320, .int .u64 t321] 25 (0, 0))) := ⟨by (with_reducible repeat (first | refine blk_drewN ?_ _ | refine blk_drew ?_ | refine blk_alloc ?_ _)); refine blk_far ?_ NB323_333.out _; (with_reducible repeat (first | refine blk_drewN ?_ _ | refine blk_drew ?_ | refine blk_alloc ?_ _)); refine blk_far ?_ NB323_333.out _; (with_reducible repeat (first | refine blk_drewN ?_ _ | refine blk_drew ?_ | refine blk_alloc ?_ _)); exact BK323.out⟩
       have n4_ : Aside0 (((w95.setCell ⟨gb333, 0, none⟩ (.int .u64 t330)).setCell ⟨gb333, 1, none⟩ (.int .u64 t331)).heap[gb329]? = some (.cells #[.int .u64 t325, .int .u64 t326] 25 (0, 0))) := ⟨by (with_reducible repeat (first | refine blk_drewN ?_ _ | refine blk_drew ?_ | refine blk_alloc ?_ _)); refine blk_far ?_ NB329_333.out _; (with_reducible repeat (first | refine blk_drewN ?_ _ | refine blk_drew ?_ | refine blk_alloc ?_ _)); refine blk_far ?_ NB329_333.out _; (with_reducible repeat (first | refine blk_drewN ?_ _ | refine blk_drew ?_ | refine blk_alloc ?_ _)); exact BK329.out⟩
       have n5_ : Aside0 (((w95.setCell ⟨gb333, 0, none⟩ (.int .u64 t330)).setCell ⟨gb333, 1, none⟩ (.int .u64 t331)).heap[gb333]? = some (.cells #[.int .u64 t330, .int .u64 t331] 25 (0, 0))) := ⟨by (with_reducible repeat (first | refine blk_drewN ?_ _ | refine blk_drew ?_ | refine blk_alloc ?_ _)); refine blk_put (cs := #[.int .u64 t330, .int .u64 0]) ?_ 1 _ rfl; (with_reducible repeat (first | refine blk_drewN ?_ _ | refine blk_drew ?_ | refine blk_alloc ?_ _)); refine blk_put (cs := #[.int .u64 0, .int .u64 0]) ?_ 0 _ rfl; (with_reducible repeat (first | refine blk_drewN ?_ _ | refine blk_drew ?_ | refine blk_alloc ?_ _)); exact BK333.out⟩
       have n6_ : Aside0 (Below w.heap.size w ((w95.setCell ⟨gb333, 0, none⟩ (.int .u64 t330)).setCell ⟨gb333, 1, none⟩ (.int .u64 t331))) := ⟨bA⟩
       (try clear BK313); (try clear BK314); (try clear BK319); (try clear BK323); (try clear BK329); (try clear BK333); (try clear HB)
       generalize ((w95.setCell ⟨gb333, 0, none⟩ (.int .u64 t330)).setCell ⟨gb333, 1, none⟩ (.int .u64 t331)) = w102 at n0_ n1_ n2_ n3_ n4_ n5_ n6_ ⊢
       have BK313 := n0_; have BK314 := n1_; have BK319 := n2_; have BK323 := n3_; have BK329 := n4_; have BK333 := n5_; have HB := n6_; clear n0_ n1_ n2_ n3_ n4_ n5_ n6_; have n0_ := Aside0.mk (blk_drew BK313.out); have n1_ := Aside0.mk (blk_drew BK314.out); have n2_ := Aside0.mk (blk_drew BK319.out); have n3_ := Aside0.mk (blk_drew BK323.out); have n4_ := Aside0.mk (blk_drew BK329.out); have n5_ := Aside0.mk (blk_drew BK333.out); have n6_ := Aside0.mk (below_drew1 HB.out); clear BK313 BK314 BK319 BK323 BK329 BK333 HB; have BK313 := n0_; have BK314 := n1_; have BK319 := n2_; have BK323 := n3_; have BK329 := n4_; have BK333 := n5_; have HB := n6_; clear n0_ n1_ n2_ n3_ n4_ n5_ n6_
       refine start_ (n := 10) (S := fun w' => w'.cell? ⟨gb333, 0, none⟩ = some (.int .u64 t330) ∧ w'.cell? ⟨gb333, 1, none⟩ = some (.int .u64 t331)) (ds := []) #[false, false, false, false, false, false, false, false, false, false] (by kernel_rfl) rfl rfl ⟨(blk_cell BK333.out 0).trans rfl, (blk_cell BK333.out 1).trans rfl⟩ (fun hHeld => ?_); refine with_tabW backfilllaw01_WideBack.tab10 backfilllaw01_WideBack.bits10 (fun HT_ HW_ => ?_)
       generalize w102.drew = w103 at BK313 BK314 BK319 BK323 BK329 BK333 HB hHeld ⊢
       refine pure_ (i := 1) (N := some 80) (v := ?_) (a' := ?_) #[false, true, false, false, false, false, false, false, false, false] rfl rfl (any_of HT_.out (by kernel_rfl)) (fun _ _ _ h => h) (Or.inl ⟨by rfl, ?_⟩) ?_ ?_
       rotate_left
       ·intro w'
        go_simp; with_reducible rfl
       rotate_left
       ·simp only [Act.put, List.setIfInBounds_toArray, List.set_cons_zero, List.set_cons_succ, i64_w, i32_w]
        rfl
       refine take_ (i := 0) (N := some 79) (v := ?_) (a' := ?_) #[true, true, false, false, false, false, false, false, false, false] rfl rfl (take_ofW HT_.out HW_.out (by kernel_rfl)) (fun _ _ _ h => h) (Or.inl ⟨by rfl, ?_⟩) hHeld ?_ ?_
       rotate_left
       ·rintro w' ⟨s0, s1⟩
        go_simp; with_reducible rfl
       rotate_left
       ·simp only [Act.put, List.setIfInBounds_toArray, List.set_cons_zero, List.set_cons_succ, i64_w, i32_w]
        rfl
       refine join_ (σ := Nat) 2 #[true, true, true, true, true, true, true, true, false, false] (fun s_ => [(81, .agg #[.int .u64 t334, .int .u64 t335]), (82, .tuple #[.agg #[.int .u64 t336, .int .u64 t337], .bool t338]), (17, .pointer (some ⟨s_, 0, none⟩)), (78, .tuple #[.agg #[.int .u64 t336, .int .u64 t337], .bool t338]), (83, .agg #[.int .u64 t336, .int .u64 t337]), (84, .bool t338)]) (fun s_ w' => (w'.cell? ⟨gb333, 0, none⟩ = some (.int .u64 t330) ∧ w'.cell? ⟨gb333, 1, none⟩ = some (.int .u64 t331)) ∧ (w'.heap[gb313]? = some (.cells #[.int .u64 a0_0, .int .u64 a0_1] 25 (0, 0))) ∧ (w'.heap[gb314]? = some (.cells #[.int .u64 a1_0, .int .u64 a1_1] 25 (0, 0))) ∧ (w'.heap[gb319]? = some (.cells #[.int .u64 t316, .int .u64 t317] 25 (0, 0))) ∧ (w'.heap[gb323]? = some (.cells #[.int .u64 t320, .int .u64 t321] 25 (0, 0))) ∧ (w'.heap[gb329]? = some (.cells #[.int .u64 t325, .int .u64 t326] 25 (0, 0))) ∧ (w'.heap[gb333]? = some (.cells #[.int .u64 t330, .int .u64 t331] 25 (0, 0))) ∧ (w'.heap[s_]? = some (.cells #[.int .u64 0, .int .u64 0] 25 (0, 0))) ∧ (w.heap.size ≤ s_) ∧ (w.heap.size ≤ s_) ∧ (gb313 ≠ s_) ∧ (s_ ≠ gb313) ∧ (gb314 ≠ s_) ∧ (s_ ≠ gb314) ∧ (gb319 ≠ s_) ∧ (s_ ≠ gb319) ∧ (gb323 ≠ s_) ∧ (s_ ≠ gb323) ∧ (gb329 ≠ s_) ∧ (s_ ≠ gb329) ∧ (gb333 ≠ s_) ∧ (s_ ≠ gb333) ∧ (Below w.heap.size w w')) ?_ ?_
       rotate_left
       ·intro hCont
        refine two_ (i := 2) (j := 7) (Ni := some 81) (Nj := some 17) #[true, true, true, false, false, false, false, false, false, false] #[true, true, false, false, false, false, false, true, false, false] rfl rfl rfl rfl (two_of HT_.out (by kernel_rfl)) (by decide) (by decide) (fun K hK => ?_) (fun K hK => ?_)
        ·skip
         refine goes_ Try.func46 (by kernel_rfl) rfl #[.int .u64 t327] (by rfl) rfl rfl aA ?_
         with_reducible refine (wide_Of.calls t327 t334 t335 _ A82.out).mono ?_
         rintro e w104 ⟨rfl, hb⟩
         refine ⟨_, rfl, ?_⟩; have n0_ := Aside0.mk (blk_below (g := gb313) (o := .cells #[.int .u64 a0_0, .int .u64 a0_1] 25 (0, 0)) kA hb); have n1_ := Aside0.mk (blk_below (g := gb314) (o := .cells #[.int .u64 a1_0, .int .u64 a1_1] 25 (0, 0)) kA hb); have n2_ := Aside0.mk (blk_below (g := gb319) (o := .cells #[.int .u64 t316, .int .u64 t317] 25 (0, 0)) kA hb); have n3_ := Aside0.mk (blk_below (g := gb323) (o := .cells #[.int .u64 t320, .int .u64 t321] 25 (0, 0)) kA hb); have n4_ := Aside0.mk (blk_below (g := gb329) (o := .cells #[.int .u64 t325, .int .u64 t326] 25 (0, 0)) kA hb); have n5_ := Aside0.mk (blk_below (g := gb333) (o := .cells #[.int .u64 t330, .int .u64 t331] 25 (0, 0)) kA hb); have n6_ := Aside0.mk (below_step bA hb); clear BK313 BK314 BK319 BK323 BK329 BK333 HB; have BK313 := n0_; have BK314 := n1_; have BK319 := n2_; have BK323 := n3_; have BK329 := n4_; have BK333 := n5_; have HB := n6_; clear n0_ n1_ n2_ n3_ n4_ n5_ n6_; (try clear hb)
         refine hK.out _ _ ⟨(blk_cell BK333.out 0).trans rfl, (blk_cell BK333.out 1).trans rfl⟩ (fun hHeld => ?_)
         clear hK K
         refine norm_ (a' := ?_) ?_ ?_
         rotate_left
         ·show Act.put _ (some 81) _ = _
          simp only [Act.put, List.setIfInBounds_toArray, List.set_cons_zero, List.set_cons_succ, i64_w, i32_w]
          rfl
         refine two_ (i := 3) (j := 7) (Ni := some 82) (Nj := some 17) #[true, true, true, true, false, false, false, false, false, false] #[true, true, true, false, false, false, false, true, false, false] rfl rfl rfl rfl (two_of HT_.out (by kernel_rfl)) (by decide) (by decide) (fun K hK => ?_) (fun K hK => ?_)
         ·skip
          refine goes_ Try.func40 (by kernel_rfl) rfl #[.agg #[.int .u64 t330, .int .u64 t331], .agg #[.int .u64 t334, .int .u64 t335]] (by rfl) rfl rfl aA ?_
          with_reducible refine (wide_Add.calls t330 t331 t334 t335 t336 t337 t338 _ A83.out).mono ?_
          rintro e w105 ⟨rfl, hb⟩
          refine ⟨_, rfl, ?_⟩; have n0_ := Aside0.mk (blk_below (g := gb313) (o := .cells #[.int .u64 a0_0, .int .u64 a0_1] 25 (0, 0)) kA hb); have n1_ := Aside0.mk (blk_below (g := gb314) (o := .cells #[.int .u64 a1_0, .int .u64 a1_1] 25 (0, 0)) kA hb); have n2_ := Aside0.mk (blk_below (g := gb319) (o := .cells #[.int .u64 t316, .int .u64 t317] 25 (0, 0)) kA hb); have n3_ := Aside0.mk (blk_below (g := gb323) (o := .cells #[.int .u64 t320, .int .u64 t321] 25 (0, 0)) kA hb); have n4_ := Aside0.mk (blk_below (g := gb329) (o := .cells #[.int .u64 t325, .int .u64 t326] 25 (0, 0)) kA hb); have n5_ := Aside0.mk (blk_below (g := gb333) (o := .cells #[.int .u64 t330, .int .u64 t331] 25 (0, 0)) kA hb); have n6_ := Aside0.mk (below_step bA hb); clear BK313 BK314 BK319 BK323 BK329 BK333 HB; have BK313 := n0_; have BK314 := n1_; have BK319 := n2_; have BK323 := n3_; have BK329 := n4_; have BK333 := n5_; have HB := n6_; clear n0_ n1_ n2_ n3_ n4_ n5_ n6_; (try clear hb)
          refine hK.out _ _ ⟨(blk_cell BK333.out 0).trans rfl, (blk_cell BK333.out 1).trans rfl⟩ (fun hHeld => ?_)
          clear hK K
          refine norm_ (a' := ?_) ?_ ?_
          rotate_left
          ·show Act.put _ (some 82) _ = _
           simp only [Act.put, List.setIfInBounds_toArray, List.set_cons_zero, List.set_cons_succ, i64_w, i32_w]
           rfl
          refine pure_ (i := 4) (N := some 78) (v := ?_) (a' := ?_) #[true, true, true, true, true, false, false, false, false, false] rfl rfl (any_of HT_.out (by kernel_rfl)) (fun _ _ _ h => h) (Or.inl ⟨by rfl, ?_⟩) ?_ ?_
          rotate_left
          ·intro w'
           go_simp; with_reducible rfl
          rotate_left
          ·simp only [Act.put, List.setIfInBounds_toArray, List.set_cons_zero, List.set_cons_succ, i64_w, i32_w]
           rfl
          refine pure_ (i := 5) (N := some 83) (v := ?_) (a' := ?_) #[true, true, true, true, true, true, false, false, false, false] rfl rfl (any_of HT_.out (by kernel_rfl)) (fun _ _ _ h => h) (Or.inl ⟨by rfl, ?_⟩) ?_ ?_
          rotate_left
          ·intro w'
           go_simp; with_reducible rfl
          rotate_left
          ·simp only [Act.put, List.setIfInBounds_toArray, List.set_cons_zero, List.set_cons_succ, i64_w, i32_w]
           rfl
          refine pure_ (i := 6) (N := some 84) (v := ?_) (a' := ?_) #[true, true, true, true, true, true, true, false, false, false] rfl rfl (any_of HT_.out (by kernel_rfl)) (fun _ _ _ h => h) (Or.inl ⟨by rfl, ?_⟩) ?_ ?_
          rotate_left
          ·intro w'
           go_simp; with_reducible rfl
          rotate_left
          ·simp only [Act.put, List.setIfInBounds_toArray, List.set_cons_zero, List.set_cons_succ, i64_w, i32_w]
           rfl
          refine one_ (i := 7) (N := some 17) #[true, true, true, true, true, true, true, true, false, false] rfl rfl (one_of HT_.out (by kernel_rfl)) (by decide) (fun K hK => ?_)
          refine box_step ?hg (N := 17) ?hd (cs := #[.int .u64 0, .int .u64 0]) (t := 25) ?hr ?_; (case hd => rfl); (case hg => rfl); (case hr => first | (go_simp; done) | (go_simp; rfl))
          intro gb339 hg w106 hbox hb
          have n0_ := Aside0.mk (blk_below (g := gb313) (o := .cells #[.int .u64 a0_0, .int .u64 a0_1] 25 (0, 0)) kA hb); have n1_ := Aside0.mk (blk_below (g := gb314) (o := .cells #[.int .u64 a1_0, .int .u64 a1_1] 25 (0, 0)) kA hb); have n2_ := Aside0.mk (blk_below (g := gb319) (o := .cells #[.int .u64 t316, .int .u64 t317] 25 (0, 0)) kA hb); have n3_ := Aside0.mk (blk_below (g := gb323) (o := .cells #[.int .u64 t320, .int .u64 t321] 25 (0, 0)) kA hb); have n4_ := Aside0.mk (blk_below (g := gb329) (o := .cells #[.int .u64 t325, .int .u64 t326] 25 (0, 0)) kA hb); have n5_ := Aside0.mk (blk_below (g := gb333) (o := .cells #[.int .u64 t330, .int .u64 t331] 25 (0, 0)) kA hb); have n6_ := Aside0.mk (below_step bA hb); have n7_ := Aside0.mk (hbox); have n8_ := Aside0.mk ((by rw [hg]; exact (below_size bA) : w.heap.size ≤ gb339)); have n9_ := Aside0.mk ((by rw [hg]; exact (below_size bA) : w.heap.size ≤ gb339)); have n10_ := Aside0.mk ((by rw [hg]; exact Nat.ne_of_lt (blk_lt (g := gb313) (o := .cells #[.int .u64 a0_0, .int .u64 a0_1] 25 (0, 0)) kA) : gb313 ≠ gb339)); have n11_ := Aside0.mk ((by rw [hg]; exact Nat.ne_of_gt (blk_lt (g := gb313) (o := .cells #[.int .u64 a0_0, .int .u64 a0_1] 25 (0, 0)) kA) : gb339 ≠ gb313)); have n12_ := Aside0.mk ((by rw [hg]; exact Nat.ne_of_lt (blk_lt (g := gb314) (o := .cells #[.int .u64 a1_0, .int .u64 a1_1] 25 (0, 0)) kA) : gb314 ≠ gb339)); have n13_ := Aside0.mk ((by rw [hg]; exact Nat.ne_of_gt (blk_lt (g := gb314) (o := .cells #[.int .u64 a1_0, .int .u64 a1_1] 25 (0, 0)) kA) : gb339 ≠ gb314)); have n14_ := Aside0.mk ((by rw [hg]; exact Nat.ne_of_lt (blk_lt (g := gb319) (o := .cells #[.int .u64 t316, .int .u64 t317] 25 (0, 0)) kA) : gb319 ≠ gb339)); have n15_ := Aside0.mk ((by rw [hg]; exact Nat.ne_of_gt (blk_lt (g := gb319) (o := .cells #[.int .u64 t316, .int .u64 t317] 25 (0, 0)) kA) : gb339 ≠ gb319)); have n16_ := Aside0.mk ((by rw [hg]; exact Nat.ne_of_lt (blk_lt (g := gb323) (o := .cells #[.int .u64 t320, .int .u64 t321] 25 (0, 0)) kA) : gb323 ≠ gb339)); have n17_ := Aside0.mk ((by rw [hg]; exact Nat.ne_of_gt (blk_lt (g := gb323) (o := .cells #[.int .u64 t320, .int .u64 t321] 25 (0, 0)) kA) : gb339 ≠ gb323)); have n18_ := Aside0.mk ((by rw [hg]; exact Nat.ne_of_lt (blk_lt (g := gb329) (o := .cells #[.int .u64 t325, .int .u64 t326] 25 (0, 0)) kA) : gb329 ≠ gb339)); have n19_ := Aside0.mk ((by rw [hg]; exact Nat.ne_of_gt (blk_lt (g := gb329) (o := .cells #[.int .u64 t325, .int .u64 t326] 25 (0, 0)) kA) : gb339 ≠ gb329)); have n20_ := Aside0.mk ((by rw [hg]; exact Nat.ne_of_lt (blk_lt (g := gb333) (o := .cells #[.int .u64 t330, .int .u64 t331] 25 (0, 0)) kA) : gb333 ≠ gb339)); have n21_ := Aside0.mk ((by rw [hg]; exact Nat.ne_of_gt (blk_lt (g := gb333) (o := .cells #[.int .u64 t330, .int .u64 t331] 25 (0, 0)) kA) : gb339 ≠ gb333)); clear BK313 BK314 BK319 BK323 BK329 BK333 HB; have BK313 := n0_; have BK314 := n1_; have BK319 := n2_; have BK323 := n3_; have BK329 := n4_; have BK333 := n5_; have HB := n6_; have BK339 := n7_; have GW339 := n8_; have GE339 := n9_; have NB313_339 := n10_; have NB339_313 := n11_; have NB314_339 := n12_; have NB339_314 := n13_; have NB319_339 := n14_; have NB339_319 := n15_; have NB323_339 := n16_; have NB339_323 := n17_; have NB329_339 := n18_; have NB339_329 := n19_; have NB333_339 := n20_; have NB339_333 := n21_; clear n0_ n1_ n2_ n3_ n4_ n5_ n6_ n7_ n8_ n9_ n10_ n11_ n12_ n13_ n14_ n15_ n16_ n17_ n18_ n19_ n20_ n21_ hb hbox hg
          refine hK.out _ _ ⟨(blk_cell BK333.out 0).trans rfl, (blk_cell BK333.out 1).trans rfl⟩ (fun hHeld => ?_)
          clear hK K
          refine norm_ (a' := ?_) ?_ ?_
          rotate_left
          ·show Act.put _ (some 17) _ = _
           simp only [Act.put, List.setIfInBounds_toArray, List.set_cons_zero, List.set_cons_succ, i64_w, i32_w]
           rfl
          exact norm_ (by simp only [putAll, Act.put, List.setIfInBounds_toArray, List.set_cons_zero, List.set_cons_succ]) (hCont (gb339) _ ⟨hHeld, kA, kA, kA, kA, kA, kA, kA, GW339.out, GE339.out, NB313_339.out, NB339_313.out, NB314_339.out, NB339_314.out, NB319_339.out, NB339_319.out, NB323_339.out, NB339_323.out, NB329_339.out, NB339_329.out, NB333_339.out, NB339_333.out, bA⟩)
         ·skip
          refine box_step ?hg (N := 17) ?hd (cs := #[.int .u64 0, .int .u64 0]) (t := 25) ?hr ?_; (case hd => rfl); (case hg => rfl); (case hr => first | (go_simp; done) | (go_simp; rfl))
          intro gb339 hg w105 hbox hb
          have n0_ := Aside0.mk (blk_below (g := gb313) (o := .cells #[.int .u64 a0_0, .int .u64 a0_1] 25 (0, 0)) kA hb); have n1_ := Aside0.mk (blk_below (g := gb314) (o := .cells #[.int .u64 a1_0, .int .u64 a1_1] 25 (0, 0)) kA hb); have n2_ := Aside0.mk (blk_below (g := gb319) (o := .cells #[.int .u64 t316, .int .u64 t317] 25 (0, 0)) kA hb); have n3_ := Aside0.mk (blk_below (g := gb323) (o := .cells #[.int .u64 t320, .int .u64 t321] 25 (0, 0)) kA hb); have n4_ := Aside0.mk (blk_below (g := gb329) (o := .cells #[.int .u64 t325, .int .u64 t326] 25 (0, 0)) kA hb); have n5_ := Aside0.mk (blk_below (g := gb333) (o := .cells #[.int .u64 t330, .int .u64 t331] 25 (0, 0)) kA hb); have n6_ := Aside0.mk (below_step bA hb); have n7_ := Aside0.mk (hbox); have n8_ := Aside0.mk ((by rw [hg]; exact (below_size bA) : w.heap.size ≤ gb339)); have n9_ := Aside0.mk ((by rw [hg]; exact (below_size bA) : w.heap.size ≤ gb339)); have n10_ := Aside0.mk ((by rw [hg]; exact Nat.ne_of_lt (blk_lt (g := gb313) (o := .cells #[.int .u64 a0_0, .int .u64 a0_1] 25 (0, 0)) kA) : gb313 ≠ gb339)); have n11_ := Aside0.mk ((by rw [hg]; exact Nat.ne_of_gt (blk_lt (g := gb313) (o := .cells #[.int .u64 a0_0, .int .u64 a0_1] 25 (0, 0)) kA) : gb339 ≠ gb313)); have n12_ := Aside0.mk ((by rw [hg]; exact Nat.ne_of_lt (blk_lt (g := gb314) (o := .cells #[.int .u64 a1_0, .int .u64 a1_1] 25 (0, 0)) kA) : gb314 ≠ gb339)); have n13_ := Aside0.mk ((by rw [hg]; exact Nat.ne_of_gt (blk_lt (g := gb314) (o := .cells #[.int .u64 a1_0, .int .u64 a1_1] 25 (0, 0)) kA) : gb339 ≠ gb314)); have n14_ := Aside0.mk ((by rw [hg]; exact Nat.ne_of_lt (blk_lt (g := gb319) (o := .cells #[.int .u64 t316, .int .u64 t317] 25 (0, 0)) kA) : gb319 ≠ gb339)); have n15_ := Aside0.mk ((by rw [hg]; exact Nat.ne_of_gt (blk_lt (g := gb319) (o := .cells #[.int .u64 t316, .int .u64 t317] 25 (0, 0)) kA) : gb339 ≠ gb319)); have n16_ := Aside0.mk ((by rw [hg]; exact Nat.ne_of_lt (blk_lt (g := gb323) (o := .cells #[.int .u64 t320, .int .u64 t321] 25 (0, 0)) kA) : gb323 ≠ gb339)); have n17_ := Aside0.mk ((by rw [hg]; exact Nat.ne_of_gt (blk_lt (g := gb323) (o := .cells #[.int .u64 t320, .int .u64 t321] 25 (0, 0)) kA) : gb339 ≠ gb323)); have n18_ := Aside0.mk ((by rw [hg]; exact Nat.ne_of_lt (blk_lt (g := gb329) (o := .cells #[.int .u64 t325, .int .u64 t326] 25 (0, 0)) kA) : gb329 ≠ gb339)); have n19_ := Aside0.mk ((by rw [hg]; exact Nat.ne_of_gt (blk_lt (g := gb329) (o := .cells #[.int .u64 t325, .int .u64 t326] 25 (0, 0)) kA) : gb339 ≠ gb329)); have n20_ := Aside0.mk ((by rw [hg]; exact Nat.ne_of_lt (blk_lt (g := gb333) (o := .cells #[.int .u64 t330, .int .u64 t331] 25 (0, 0)) kA) : gb333 ≠ gb339)); have n21_ := Aside0.mk ((by rw [hg]; exact Nat.ne_of_gt (blk_lt (g := gb333) (o := .cells #[.int .u64 t330, .int .u64 t331] 25 (0, 0)) kA) : gb339 ≠ gb333)); clear BK313 BK314 BK319 BK323 BK329 BK333 HB; have BK313 := n0_; have BK314 := n1_; have BK319 := n2_; have BK323 := n3_; have BK329 := n4_; have BK333 := n5_; have HB := n6_; have BK339 := n7_; have GW339 := n8_; have GE339 := n9_; have NB313_339 := n10_; have NB339_313 := n11_; have NB314_339 := n12_; have NB339_314 := n13_; have NB319_339 := n14_; have NB339_319 := n15_; have NB323_339 := n16_; have NB339_323 := n17_; have NB329_339 := n18_; have NB339_329 := n19_; have NB333_339 := n20_; have NB339_333 := n21_; clear n0_ n1_ n2_ n3_ n4_ n5_ n6_ n7_ n8_ n9_ n10_ n11_ n12_ n13_ n14_ n15_ n16_ n17_ n18_ n19_ n20_ n21_ hb hbox hg
          refine hK.out _ _ ⟨(blk_cell BK333.out 0).trans rfl, (blk_cell BK333.out 1).trans rfl⟩ (fun hHeld => ?_)
          clear hK K
          refine norm_ (a' := ?_) ?_ ?_
          rotate_left
          ·show Act.put _ (some 17) _ = _
           simp only [Act.put, List.setIfInBounds_toArray, List.set_cons_zero, List.set_cons_succ, i64_w, i32_w]
           rfl
          refine one_ (i := 3) (N := some 82) #[true, true, true, true, false, false, false, true, false, false] rfl rfl (one_of HT_.out (by kernel_rfl)) (by decide) (fun K hK => ?_)
          refine goes_ Try.func40 (by kernel_rfl) rfl #[.agg #[.int .u64 t330, .int .u64 t331], .agg #[.int .u64 t334, .int .u64 t335]] (by rfl) rfl rfl aA ?_
          with_reducible refine (wide_Add.calls t330 t331 t334 t335 t336 t337 t338 _ A83.out).mono ?_
          rintro e w106 ⟨rfl, hb⟩
          refine ⟨_, rfl, ?_⟩; have n0_ := Aside0.mk (blk_below (g := gb313) (o := .cells #[.int .u64 a0_0, .int .u64 a0_1] 25 (0, 0)) kA hb); have n1_ := Aside0.mk (blk_below (g := gb314) (o := .cells #[.int .u64 a1_0, .int .u64 a1_1] 25 (0, 0)) kA hb); have n2_ := Aside0.mk (blk_below (g := gb319) (o := .cells #[.int .u64 t316, .int .u64 t317] 25 (0, 0)) kA hb); have n3_ := Aside0.mk (blk_below (g := gb323) (o := .cells #[.int .u64 t320, .int .u64 t321] 25 (0, 0)) kA hb); have n4_ := Aside0.mk (blk_below (g := gb329) (o := .cells #[.int .u64 t325, .int .u64 t326] 25 (0, 0)) kA hb); have n5_ := Aside0.mk (blk_below (g := gb333) (o := .cells #[.int .u64 t330, .int .u64 t331] 25 (0, 0)) kA hb); have n6_ := Aside0.mk (blk_below (g := gb339) (o := .cells #[.int .u64 0, .int .u64 0] 25 (0, 0)) kA hb); have n7_ := Aside0.mk (below_step bA hb); clear BK313 BK314 BK319 BK323 BK329 BK333 BK339 HB; have BK313 := n0_; have BK314 := n1_; have BK319 := n2_; have BK323 := n3_; have BK329 := n4_; have BK333 := n5_; have BK339 := n6_; have HB := n7_; clear n0_ n1_ n2_ n3_ n4_ n5_ n6_ n7_; (try clear hb)
          refine hK.out _ _ ⟨(blk_cell BK333.out 0).trans rfl, (blk_cell BK333.out 1).trans rfl⟩ (fun hHeld => ?_)
          clear hK K
          refine norm_ (a' := ?_) ?_ ?_
          rotate_left
          ·show Act.put _ (some 82) _ = _
           simp only [Act.put, List.setIfInBounds_toArray, List.set_cons_zero, List.set_cons_succ, i64_w, i32_w]
           rfl
          refine pure_ (i := 4) (N := some 78) (v := ?_) (a' := ?_) #[true, true, true, true, true, false, false, true, false, false] rfl rfl (any_of HT_.out (by kernel_rfl)) (fun _ _ _ h => h) (Or.inl ⟨by rfl, ?_⟩) ?_ ?_
          rotate_left
          ·intro w'
           go_simp; with_reducible rfl
          rotate_left
          ·simp only [Act.put, List.setIfInBounds_toArray, List.set_cons_zero, List.set_cons_succ, i64_w, i32_w]
           rfl
          refine pure_ (i := 5) (N := some 83) (v := ?_) (a' := ?_) #[true, true, true, true, true, true, false, true, false, false] rfl rfl (any_of HT_.out (by kernel_rfl)) (fun _ _ _ h => h) (Or.inl ⟨by rfl, ?_⟩) ?_ ?_
          rotate_left
          ·intro w'
           go_simp; with_reducible rfl
          rotate_left
          ·simp only [Act.put, List.setIfInBounds_toArray, List.set_cons_zero, List.set_cons_succ, i64_w, i32_w]
           rfl
          refine pure_ (i := 6) (N := some 84) (v := ?_) (a' := ?_) #[true, true, true, true, true, true, true, true, false, false] rfl rfl (any_of HT_.out (by kernel_rfl)) (fun _ _ _ h => h) (Or.inl ⟨by rfl, ?_⟩) ?_ ?_
          rotate_left
          ·intro w'
           go_simp; with_reducible rfl
          rotate_left
          ·simp only [Act.put, List.setIfInBounds_toArray, List.set_cons_zero, List.set_cons_succ, i64_w, i32_w]
           rfl
          exact norm_ (by simp only [putAll, Act.put, List.setIfInBounds_toArray, List.set_cons_zero, List.set_cons_succ]) (hCont (gb339) _ ⟨hHeld, kA, kA, kA, kA, kA, kA, kA, GW339.out, GE339.out, NB313_339.out, NB339_313.out, NB314_339.out, NB339_314.out, NB319_339.out, NB339_319.out, NB323_339.out, NB339_323.out, NB329_339.out, NB339_329.out, NB333_339.out, NB339_333.out, bA⟩)
        ·skip
         refine box_step ?hg (N := 17) ?hd (cs := #[.int .u64 0, .int .u64 0]) (t := 25) ?hr ?_; (case hd => rfl); (case hg => rfl); (case hr => first | (go_simp; done) | (go_simp; rfl))
         intro gb339 hg w104 hbox hb
         have n0_ := Aside0.mk (blk_below (g := gb313) (o := .cells #[.int .u64 a0_0, .int .u64 a0_1] 25 (0, 0)) kA hb); have n1_ := Aside0.mk (blk_below (g := gb314) (o := .cells #[.int .u64 a1_0, .int .u64 a1_1] 25 (0, 0)) kA hb); have n2_ := Aside0.mk (blk_below (g := gb319) (o := .cells #[.int .u64 t316, .int .u64 t317] 25 (0, 0)) kA hb); have n3_ := Aside0.mk (blk_below (g := gb323) (o := .cells #[.int .u64 t320, .int .u64 t321] 25 (0, 0)) kA hb); have n4_ := Aside0.mk (blk_below (g := gb329) (o := .cells #[.int .u64 t325, .int .u64 t326] 25 (0, 0)) kA hb); have n5_ := Aside0.mk (blk_below (g := gb333) (o := .cells #[.int .u64 t330, .int .u64 t331] 25 (0, 0)) kA hb); have n6_ := Aside0.mk (below_step bA hb); have n7_ := Aside0.mk (hbox); have n8_ := Aside0.mk ((by rw [hg]; exact (below_size bA) : w.heap.size ≤ gb339)); have n9_ := Aside0.mk ((by rw [hg]; exact (below_size bA) : w.heap.size ≤ gb339)); have n10_ := Aside0.mk ((by rw [hg]; exact Nat.ne_of_lt (blk_lt (g := gb313) (o := .cells #[.int .u64 a0_0, .int .u64 a0_1] 25 (0, 0)) kA) : gb313 ≠ gb339)); have n11_ := Aside0.mk ((by rw [hg]; exact Nat.ne_of_gt (blk_lt (g := gb313) (o := .cells #[.int .u64 a0_0, .int .u64 a0_1] 25 (0, 0)) kA) : gb339 ≠ gb313)); have n12_ := Aside0.mk ((by rw [hg]; exact Nat.ne_of_lt (blk_lt (g := gb314) (o := .cells #[.int .u64 a1_0, .int .u64 a1_1] 25 (0, 0)) kA) : gb314 ≠ gb339)); have n13_ := Aside0.mk ((by rw [hg]; exact Nat.ne_of_gt (blk_lt (g := gb314) (o := .cells #[.int .u64 a1_0, .int .u64 a1_1] 25 (0, 0)) kA) : gb339 ≠ gb314)); have n14_ := Aside0.mk ((by rw [hg]; exact Nat.ne_of_lt (blk_lt (g := gb319) (o := .cells #[.int .u64 t316, .int .u64 t317] 25 (0, 0)) kA) : gb319 ≠ gb339)); have n15_ := Aside0.mk ((by rw [hg]; exact Nat.ne_of_gt (blk_lt (g := gb319) (o := .cells #[.int .u64 t316, .int .u64 t317] 25 (0, 0)) kA) : gb339 ≠ gb319)); have n16_ := Aside0.mk ((by rw [hg]; exact Nat.ne_of_lt (blk_lt (g := gb323) (o := .cells #[.int .u64 t320, .int .u64 t321] 25 (0, 0)) kA) : gb323 ≠ gb339)); have n17_ := Aside0.mk ((by rw [hg]; exact Nat.ne_of_gt (blk_lt (g := gb323) (o := .cells #[.int .u64 t320, .int .u64 t321] 25 (0, 0)) kA) : gb339 ≠ gb323)); have n18_ := Aside0.mk ((by rw [hg]; exact Nat.ne_of_lt (blk_lt (g := gb329) (o := .cells #[.int .u64 t325, .int .u64 t326] 25 (0, 0)) kA) : gb329 ≠ gb339)); have n19_ := Aside0.mk ((by rw [hg]; exact Nat.ne_of_gt (blk_lt (g := gb329) (o := .cells #[.int .u64 t325, .int .u64 t326] 25 (0, 0)) kA) : gb339 ≠ gb329)); have n20_ := Aside0.mk ((by rw [hg]; exact Nat.ne_of_lt (blk_lt (g := gb333) (o := .cells #[.int .u64 t330, .int .u64 t331] 25 (0, 0)) kA) : gb333 ≠ gb339)); have n21_ := Aside0.mk ((by rw [hg]; exact Nat.ne_of_gt (blk_lt (g := gb333) (o := .cells #[.int .u64 t330, .int .u64 t331] 25 (0, 0)) kA) : gb339 ≠ gb333)); clear BK313 BK314 BK319 BK323 BK329 BK333 HB; have BK313 := n0_; have BK314 := n1_; have BK319 := n2_; have BK323 := n3_; have BK329 := n4_; have BK333 := n5_; have HB := n6_; have BK339 := n7_; have GW339 := n8_; have GE339 := n9_; have NB313_339 := n10_; have NB339_313 := n11_; have NB314_339 := n12_; have NB339_314 := n13_; have NB319_339 := n14_; have NB339_319 := n15_; have NB323_339 := n16_; have NB339_323 := n17_; have NB329_339 := n18_; have NB339_329 := n19_; have NB333_339 := n20_; have NB339_333 := n21_; clear n0_ n1_ n2_ n3_ n4_ n5_ n6_ n7_ n8_ n9_ n10_ n11_ n12_ n13_ n14_ n15_ n16_ n17_ n18_ n19_ n20_ n21_ hb hbox hg
         refine hK.out _ _ ⟨(blk_cell BK333.out 0).trans rfl, (blk_cell BK333.out 1).trans rfl⟩ (fun hHeld => ?_)
         clear hK K
         refine norm_ (a' := ?_) ?_ ?_
         rotate_left
         ·show Act.put _ (some 17) _ = _
          simp only [Act.put, List.setIfInBounds_toArray, List.set_cons_zero, List.set_cons_succ, i64_w, i32_w]
          rfl
         refine one_ (i := 2) (N := some 81) #[true, true, true, false, false, false, false, true, false, false] rfl rfl (one_of HT_.out (by kernel_rfl)) (by decide) (fun K hK => ?_)
         refine goes_ Try.func46 (by kernel_rfl) rfl #[.int .u64 t327] (by rfl) rfl rfl aA ?_
         with_reducible refine (wide_Of.calls t327 t334 t335 _ A82.out).mono ?_
         rintro e w105 ⟨rfl, hb⟩
         refine ⟨_, rfl, ?_⟩; have n0_ := Aside0.mk (blk_below (g := gb313) (o := .cells #[.int .u64 a0_0, .int .u64 a0_1] 25 (0, 0)) kA hb); have n1_ := Aside0.mk (blk_below (g := gb314) (o := .cells #[.int .u64 a1_0, .int .u64 a1_1] 25 (0, 0)) kA hb); have n2_ := Aside0.mk (blk_below (g := gb319) (o := .cells #[.int .u64 t316, .int .u64 t317] 25 (0, 0)) kA hb); have n3_ := Aside0.mk (blk_below (g := gb323) (o := .cells #[.int .u64 t320, .int .u64 t321] 25 (0, 0)) kA hb); have n4_ := Aside0.mk (blk_below (g := gb329) (o := .cells #[.int .u64 t325, .int .u64 t326] 25 (0, 0)) kA hb); have n5_ := Aside0.mk (blk_below (g := gb333) (o := .cells #[.int .u64 t330, .int .u64 t331] 25 (0, 0)) kA hb); have n6_ := Aside0.mk (blk_below (g := gb339) (o := .cells #[.int .u64 0, .int .u64 0] 25 (0, 0)) kA hb); have n7_ := Aside0.mk (below_step bA hb); clear BK313 BK314 BK319 BK323 BK329 BK333 BK339 HB; have BK313 := n0_; have BK314 := n1_; have BK319 := n2_; have BK323 := n3_; have BK329 := n4_; have BK333 := n5_; have BK339 := n6_; have HB := n7_; clear n0_ n1_ n2_ n3_ n4_ n5_ n6_ n7_; (try clear hb)
         refine hK.out _ _ ⟨(blk_cell BK333.out 0).trans rfl, (blk_cell BK333.out 1).trans rfl⟩ (fun hHeld => ?_)
         clear hK K
         refine norm_ (a' := ?_) ?_ ?_
         rotate_left
         ·show Act.put _ (some 81) _ = _
          simp only [Act.put, List.setIfInBounds_toArray, List.set_cons_zero, List.set_cons_succ, i64_w, i32_w]
          rfl
         refine one_ (i := 3) (N := some 82) #[true, true, true, true, false, false, false, true, false, false] rfl rfl (one_of HT_.out (by kernel_rfl)) (by decide) (fun K hK => ?_)
         refine goes_ Try.func40 (by kernel_rfl) rfl #[.agg #[.int .u64 t330, .int .u64 t331], .agg #[.int .u64 t334, .int .u64 t335]] (by rfl) rfl rfl aA ?_
         with_reducible refine (wide_Add.calls t330 t331 t334 t335 t336 t337 t338 _ A83.out).mono ?_
         rintro e w106 ⟨rfl, hb⟩
         refine ⟨_, rfl, ?_⟩; have n0_ := Aside0.mk (blk_below (g := gb313) (o := .cells #[.int .u64 a0_0, .int .u64 a0_1] 25 (0, 0)) kA hb); have n1_ := Aside0.mk (blk_below (g := gb314) (o := .cells #[.int .u64 a1_0, .int .u64 a1_1] 25 (0, 0)) kA hb); have n2_ := Aside0.mk (blk_below (g := gb319) (o := .cells #[.int .u64 t316, .int .u64 t317] 25 (0, 0)) kA hb); have n3_ := Aside0.mk (blk_below (g := gb323) (o := .cells #[.int .u64 t320, .int .u64 t321] 25 (0, 0)) kA hb); have n4_ := Aside0.mk (blk_below (g := gb329) (o := .cells #[.int .u64 t325, .int .u64 t326] 25 (0, 0)) kA hb); have n5_ := Aside0.mk (blk_below (g := gb333) (o := .cells #[.int .u64 t330, .int .u64 t331] 25 (0, 0)) kA hb); have n6_ := Aside0.mk (blk_below (g := gb339) (o := .cells #[.int .u64 0, .int .u64 0] 25 (0, 0)) kA hb); have n7_ := Aside0.mk (below_step bA hb); clear BK313 BK314 BK319 BK323 BK329 BK333 BK339 HB; have BK313 := n0_; have BK314 := n1_; have BK319 := n2_; have BK323 := n3_; have BK329 := n4_; have BK333 := n5_; have BK339 := n6_; have HB := n7_; clear n0_ n1_ n2_ n3_ n4_ n5_ n6_ n7_; (try clear hb)
         refine hK.out _ _ ⟨(blk_cell BK333.out 0).trans rfl, (blk_cell BK333.out 1).trans rfl⟩ (fun hHeld => ?_)
         clear hK K
         refine norm_ (a' := ?_) ?_ ?_
         rotate_left
         ·show Act.put _ (some 82) _ = _
          simp only [Act.put, List.setIfInBounds_toArray, List.set_cons_zero, List.set_cons_succ, i64_w, i32_w]
          rfl
         refine pure_ (i := 4) (N := some 78) (v := ?_) (a' := ?_) #[true, true, true, true, true, false, false, true, false, false] rfl rfl (any_of HT_.out (by kernel_rfl)) (fun _ _ _ h => h) (Or.inl ⟨by rfl, ?_⟩) ?_ ?_
         rotate_left
         ·intro w'
          go_simp; with_reducible rfl
         rotate_left
         ·simp only [Act.put, List.setIfInBounds_toArray, List.set_cons_zero, List.set_cons_succ, i64_w, i32_w]
          rfl
         refine pure_ (i := 5) (N := some 83) (v := ?_) (a' := ?_) #[true, true, true, true, true, true, false, true, false, false] rfl rfl (any_of HT_.out (by kernel_rfl)) (fun _ _ _ h => h) (Or.inl ⟨by rfl, ?_⟩) ?_ ?_
         rotate_left
         ·intro w'
          go_simp; with_reducible rfl
         rotate_left
         ·simp only [Act.put, List.setIfInBounds_toArray, List.set_cons_zero, List.set_cons_succ, i64_w, i32_w]
          rfl
         refine pure_ (i := 6) (N := some 84) (v := ?_) (a' := ?_) #[true, true, true, true, true, true, true, true, false, false] rfl rfl (any_of HT_.out (by kernel_rfl)) (fun _ _ _ h => h) (Or.inl ⟨by rfl, ?_⟩) ?_ ?_
         rotate_left
         ·intro w'
          go_simp; with_reducible rfl
         rotate_left
         ·simp only [Act.put, List.setIfInBounds_toArray, List.set_cons_zero, List.set_cons_succ, i64_w, i32_w]
          rfl
         exact norm_ (by simp only [putAll, Act.put, List.setIfInBounds_toArray, List.set_cons_zero, List.set_cons_succ]) (hCont (gb339) _ ⟨hHeld, kA, kA, kA, kA, kA, kA, kA, GW339.out, GE339.out, NB313_339.out, NB339_313.out, NB314_339.out, NB339_314.out, NB319_339.out, NB339_319.out, NB323_339.out, NB339_323.out, NB329_339.out, NB339_329.out, NB333_339.out, NB339_333.out, bA⟩)
       rintro gb339 w107 ⟨hS_, h0_, h1_, h2_, h3_, h4_, h5_, h6_, h7_, h8_, h9_, h10_, h11_, h12_, h13_, h14_, h15_, h16_, h17_, h18_, h19_, h20_, h21_⟩
       have n0_ : Aside0 (w107.heap[gb313]? = some (.cells #[.int .u64 a0_0, .int .u64 a0_1] 25 (0, 0))) := ⟨h0_⟩
       have n1_ : Aside0 (w107.heap[gb314]? = some (.cells #[.int .u64 a1_0, .int .u64 a1_1] 25 (0, 0))) := ⟨h1_⟩
       have n2_ : Aside0 (w107.heap[gb319]? = some (.cells #[.int .u64 t316, .int .u64 t317] 25 (0, 0))) := ⟨h2_⟩
       have n3_ : Aside0 (w107.heap[gb323]? = some (.cells #[.int .u64 t320, .int .u64 t321] 25 (0, 0))) := ⟨h3_⟩
       have n4_ : Aside0 (w107.heap[gb329]? = some (.cells #[.int .u64 t325, .int .u64 t326] 25 (0, 0))) := ⟨h4_⟩
       have n5_ : Aside0 (w107.heap[gb333]? = some (.cells #[.int .u64 t330, .int .u64 t331] 25 (0, 0))) := ⟨h5_⟩
       have n6_ : Aside0 (w107.heap[gb339]? = some (.cells #[.int .u64 0, .int .u64 0] 25 (0, 0))) := ⟨h6_⟩
       have n7_ : Aside0 (w.heap.size ≤ gb339) := ⟨h7_⟩
       have n8_ : Aside0 (w.heap.size ≤ gb339) := ⟨h8_⟩
       have n9_ : Aside0 (gb313 ≠ gb339) := ⟨h9_⟩
       have n10_ : Aside0 (gb339 ≠ gb313) := ⟨h10_⟩
       have n11_ : Aside0 (gb314 ≠ gb339) := ⟨h11_⟩
       have n12_ : Aside0 (gb339 ≠ gb314) := ⟨h12_⟩
       have n13_ : Aside0 (gb319 ≠ gb339) := ⟨h13_⟩
       have n14_ : Aside0 (gb339 ≠ gb319) := ⟨h14_⟩
       have n15_ : Aside0 (gb323 ≠ gb339) := ⟨h15_⟩
       have n16_ : Aside0 (gb339 ≠ gb323) := ⟨h16_⟩
       have n17_ : Aside0 (gb329 ≠ gb339) := ⟨h17_⟩
       have n18_ : Aside0 (gb339 ≠ gb329) := ⟨h18_⟩
       have n19_ : Aside0 (gb333 ≠ gb339) := ⟨h19_⟩
       have n20_ : Aside0 (gb339 ≠ gb333) := ⟨h20_⟩
       have n21_ : Aside0 (Below w.heap.size w w107) := ⟨h21_⟩
       clear BK313 BK314 BK319 BK323 BK329 BK333 HB h0_ h1_ h2_ h3_ h4_ h5_ h6_ h7_ h8_ h9_ h10_ h11_ h12_ h13_ h14_ h15_ h16_ h17_ h18_ h19_ h20_ h21_; have BK313 := n0_; have BK314 := n1_; have BK319 := n2_; have BK323 := n3_; have BK329 := n4_; have BK333 := n5_; have BK339 := n6_; have GW339 := n7_; have GE339 := n8_; have NB313_339 := n9_; have NB339_313 := n10_; have NB314_339 := n11_; have NB339_314 := n12_; have NB319_339 := n13_; have NB339_319 := n14_; have NB323_339 := n15_; have NB339_323 := n16_; have NB329_339 := n17_; have NB339_329 := n18_; have NB333_339 := n19_; have NB339_333 := n20_; have HB := n21_; clear n0_ n1_ n2_ n3_ n4_ n5_ n6_ n7_ n8_ n9_ n10_ n11_ n12_ n13_ n14_ n15_ n16_ n17_ n18_ n19_ n20_ n21_
       have hHeld : w107.cell? ⟨gb333, 0, none⟩ = some (.int .u64 t330) ∧ w107.cell? ⟨gb333, 1, none⟩ = some (.int .u64 t331) := hS_
       refine norm_ (a' := ?_) ?_ ?_
       rotate_left
       ·simp only [putAll, Act.put, List.setIfInBounds_toArray, List.set_cons_zero, List.set_cons_succ]
        rfl
       refine one_ (i := 8) (N := none) #[true, true, true, true, true, true, true, true, true, false] rfl rfl (one_of HT_.out (by kernel_rfl)) (by decide) (fun K hK => ?_)
       have hs108 : w107.cell? ⟨gb339, 0, none⟩ = some (.int .u64 0) := (blk_cell BK339.out 0).trans rfl
       have hfs108 := blk_frozen BK339.out 0
       have hns108_0 := NB313_339.out
       have hns108_1 := NB314_339.out
       have hns108_2 := NB319_339.out
       have hns108_3 := NB323_339.out
       have hns108_4 := NB329_339.out
       have hns108_5 := NB333_339.out
       have hms108_0 := NB339_313.out
       have hms108_1 := NB339_314.out
       have hms108_2 := NB339_319.out
       have hms108_3 := NB339_323.out
       have hms108_4 := NB339_329.out
       have hms108_5 := NB339_333.out
       have hs109 : w107.cell? ⟨gb339, 1, none⟩ = some (.int .u64 0) := (blk_cell BK339.out 1).trans rfl
       have hfs109 := blk_frozen BK339.out 1
       have hns109_0 := NB313_339.out
       have hns109_1 := NB314_339.out
       have hns109_2 := NB319_339.out
       have hns109_3 := NB323_339.out
       have hns109_4 := NB329_339.out
       have hns109_5 := NB333_339.out
       have hms109_0 := NB339_313.out
       have hms109_1 := NB339_314.out
       have hms109_2 := NB339_319.out
       have hms109_3 := NB339_323.out
       have hms109_4 := NB339_329.out
       have hms109_5 := NB339_333.out
       refine skip_ (w1 := ?_) (by rfl) rfl ?_ ?_
       rotate_left
       ·go_simp
        rfl
       refine hK.out _ _ ⟨((cell_far (p := ⟨gb339, _, none⟩) NB333_339.out _).trans (((cell_far (p := ⟨gb339, _, none⟩) NB333_339.out _).trans (hHeld.1)))), ((cell_far (p := ⟨gb339, _, none⟩) NB333_339.out _).trans (((cell_far (p := ⟨gb339, _, none⟩) NB333_339.out _).trans (hHeld.2))))⟩ (fun hHeld => ?_)
       clear hK K
       refine pure_ (i := 9) (N := some 18) (v := ?_) (a' := ?_) #[true, true, true, true, true, true, true, true, true, true] rfl rfl (any_of HT_.out (by kernel_rfl)) (fun _ _ _ h => h) (Or.inl ⟨by rfl, ?_⟩) ?_ ?_
       rotate_left
       ·intro w'
        go_simp; with_reducible rfl
       rotate_left
       ·simp only [Act.put, List.setIfInBounds_toArray, List.set_cons_zero, List.set_cons_succ, i64_w, i32_w]
        rfl
       refine done_ (done_of HT_.out (by kernel_rfl)) ?_
       go_upto_region 11 with (fail)
       go_cut [98] (fun v98 wc => ∃ (kq : Nat) (x98_83 : Bool), v98 = .bool x98_83 ∧ Aside0 (backfilllaw01_WideBack.j2 kq a2 t315 x98_83 a0_0 a0_1 = some r) ∧ Aside0 (kq ≤ kj47) ∧ Aside0 (wc.heap[gb313]? = some (.cells #[.int .u64 a0_0, .int .u64 a0_1] 25 (0, 0))) ∧ Aside0 (wc.heap[gb314]? = some (.cells #[.int .u64 a1_0, .int .u64 a1_1] 25 (0, 0))) ∧ Aside0 (wc.heap[gb319]? = some (.cells #[.int .u64 t316, .int .u64 t317] 25 (0, 0))) ∧ Aside0 (wc.heap[gb323]? = some (.cells #[.int .u64 t320, .int .u64 t321] 25 (0, 0))) ∧ Aside0 (wc.heap[gb329]? = some (.cells #[.int .u64 t325, .int .u64 t326] 25 (0, 0))) ∧ Aside0 (wc.heap[gb333]? = some (.cells #[.int .u64 t330, .int .u64 t331] 25 (0, 0))) ∧ Aside0 (wc.heap[gb339]? = some (.cells #[.int .u64 t336, .int .u64 t337] 25 (0, 0))) ∧ Aside0 (Below w.heap.size w wc))
       case first =>
        have H := HC84.out
        clear HC84
        by_cases c110 : t328 = true
        ·subst c110
         have H1 : (if t332 = true then (if t338 = true then (backfilllaw01_WideBack.j2 kj47 a2 t315 (!(t336 == a0_0) || (!(t337 == a0_1))) a0_0 a0_1) else (backfilllaw01_WideBack.j2 kj47 a2 t315 true a0_0 a0_1)) else (backfilllaw01_WideBack.j2 kj47 a2 t315 true a0_0 a0_1)) = some r := by rw [if_pos rfl] at H; exact H
         clear H
         have H := H1
         clear H1
         by_cases c111 : t332 = true
         ·subst c111
          have H1 : (if t338 = true then (backfilllaw01_WideBack.j2 kj47 a2 t315 (!(t336 == a0_0) || (!(t337 == a0_1))) a0_0 a0_1) else (backfilllaw01_WideBack.j2 kj47 a2 t315 true a0_0 a0_1)) = some r := by rw [if_pos rfl] at H; exact H
          clear H
          have H := H1
          clear H1
          by_cases c112 : t338 = true
          ·subst c112
           have H1 : (backfilllaw01_WideBack.j2 kj47 a2 t315 (!(t336 == a0_0) || (!(t337 == a0_1))) a0_0 a0_1) = some r := by rw [if_pos rfl] at H; exact H
           clear H
           have H := H1
           clear H1
           have H' := Aside0.mk H
           clear H
           have hnb113 := NB339_313.out
           have hnc113 := NB313_339.out
           have hnb114 := NB339_314.out
           have hnc114 := NB314_339.out
           have hnb115 := NB339_319.out
           have hnc115 := NB319_339.out
           have hnb116 := NB339_323.out
           have hnc116 := NB323_339.out
           have hnb117 := NB339_329.out
           have hnc117 := NB329_339.out
           have hnb118 := NB339_333.out
           have hnc118 := NB333_339.out
           have hcz119_0 : w107.cell? ⟨gb339, 0, none⟩ = some (.int .u64 0) := (blk_cell BK339.out 0).trans rfl
           have hcz119_1 : w107.cell? ⟨gb339, 1, none⟩ = some (.int .u64 0) := (blk_cell BK339.out 1).trans rfl
           have hfz119_0 := blk_frozen BK339.out 0
           have hfz119_1 := blk_frozen BK339.out 1
           have hnb120 := NB313_314.out
           have hnc120 := NB314_313.out
           have hnb121 := NB313_319.out
           have hnc121 := NB319_313.out
           have hnb122 := NB313_323.out
           have hnc122 := NB323_313.out
           have hnb123 := NB313_329.out
           have hnc123 := NB329_313.out
           have hnb124 := NB313_333.out
           have hnc124 := NB333_313.out
           have hcz125_0 : w107.cell? ⟨gb313, 0, none⟩ = some (.int .u64 a0_0) := (blk_cell BK313.out 0).trans rfl
           have hcz125_1 : w107.cell? ⟨gb313, 1, none⟩ = some (.int .u64 a0_1) := (blk_cell BK313.out 1).trans rfl
           have hfz125_0 := blk_frozen BK313.out 0
           have hfz125_1 := blk_frozen BK313.out 1
           go_wp2
           go_meet
           case rel => exact ⟨_, ((!(t336 == a0_0) || (!(t337 == a0_1)))), (by first | rfl | (simp; done) | (simp [*]; done)), H', ⟨by have := HJ6.out; have := HJ47.out; first | omega | exact Nat.le_refl _⟩, ⟨by (with_reducible repeat (first | refine blk_drewN ?_ _ | refine blk_drew ?_ | refine blk_alloc ?_ _)); refine blk_far ?_ NB313_339.out _; (with_reducible repeat (first | refine blk_drewN ?_ _ | refine blk_drew ?_ | refine blk_alloc ?_ _)); refine blk_far ?_ NB313_339.out _; (with_reducible repeat (first | refine blk_drewN ?_ _ | refine blk_drew ?_ | refine blk_alloc ?_ _)); exact BK313.out⟩, ⟨by (with_reducible repeat (first | refine blk_drewN ?_ _ | refine blk_drew ?_ | refine blk_alloc ?_ _)); refine blk_far ?_ NB314_339.out _; (with_reducible repeat (first | refine blk_drewN ?_ _ | refine blk_drew ?_ | refine blk_alloc ?_ _)); refine blk_far ?_ NB314_339.out _; (with_reducible repeat (first | refine blk_drewN ?_ _ | refine blk_drew ?_ | refine blk_alloc ?_ _)); exact BK314.out⟩, ⟨by (with_reducible repeat (first | refine blk_drewN ?_ _ | refine blk_drew ?_ | refine blk_alloc ?_ _)); refine blk_far ?_ NB319_339.out _; (with_reducible repeat (first | refine blk_drewN ?_ _ | refine blk_drew ?_ | refine blk_alloc ?_ _)); refine blk_far ?_ NB319_339.out _; (with_reducible repeat (first | refine blk_drewN ?_ _ | refine blk_drew ?_ | refine blk_alloc ?_ _)); exact BK319.out⟩, ⟨by (with_reducible repeat (first | refine blk_drewN ?_ _ | refine blk_drew ?_ | refine blk_alloc ?_ _)); refine blk_far ?_ NB323_339.out _; (with_reducible repeat (first | refine blk_drewN ?_ _ | refine blk_drew ?_ | refine blk_alloc ?_ _)); refine blk_far ?_ NB323_339.out _; (with_reducible repeat (first | refine blk_drewN ?_ _ | refine blk_drew ?_ | refine blk_alloc ?_ _)); exact BK323.out⟩, ⟨by (with_reducible repeat (first | refine blk_drewN ?_ _ | refine blk_drew ?_ | refine blk_alloc ?_ _)); refine blk_far ?_ NB329_339.out _; (with_reducible repeat (first | refine blk_drewN ?_ _ | refine blk_drew ?_ | refine blk_alloc ?_ _)); refine blk_far ?_ NB329_339.out _; (with_reducible repeat (first | refine blk_drewN ?_ _ | refine blk_drew ?_ | refine blk_alloc ?_ _)); exact BK329.out⟩, ⟨by (with_reducible repeat (first | refine blk_drewN ?_ _ | refine blk_drew ?_ | refine blk_alloc ?_ _)); refine blk_far ?_ NB333_339.out _; (with_reducible repeat (first | refine blk_drewN ?_ _ | refine blk_drew ?_ | refine blk_alloc ?_ _)); refine blk_far ?_ NB333_339.out _; (with_reducible repeat (first | refine blk_drewN ?_ _ | refine blk_drew ?_ | refine blk_alloc ?_ _)); exact BK333.out⟩, ⟨by (with_reducible repeat (first | refine blk_drewN ?_ _ | refine blk_drew ?_ | refine blk_alloc ?_ _)); refine blk_put (cs := #[.int .u64 t336, .int .u64 0]) ?_ 1 _ rfl; (with_reducible repeat (first | refine blk_drewN ?_ _ | refine blk_drew ?_ | refine blk_alloc ?_ _)); refine blk_put (cs := #[.int .u64 0, .int .u64 0]) ?_ 0 _ rfl; (with_reducible repeat (first | refine blk_drewN ?_ _ | refine blk_drew ?_ | refine blk_alloc ?_ _)); exact BK339.out⟩, ⟨bA⟩⟩
          ·replace c112 := Bool.eq_false_iff.mpr c112
           subst c112
           have H1 : (backfilllaw01_WideBack.j2 kj47 a2 t315 true a0_0 a0_1) = some r := by rw [if_neg (show ¬ (false = true) by decide)] at H; exact H
           clear H
           have H := H1
           clear H1
           have H' := Aside0.mk H
           clear H
           go_wp2
           go_meet
           case rel => exact ⟨_, (true), (by first | rfl | (simp; done) | (simp [*]; done)), H', ⟨by have := HJ6.out; have := HJ47.out; first | omega | exact Nat.le_refl _⟩, ⟨by (with_reducible repeat (first | refine blk_drewN ?_ _ | refine blk_drew ?_ | refine blk_alloc ?_ _)); refine blk_far ?_ NB313_339.out _; (with_reducible repeat (first | refine blk_drewN ?_ _ | refine blk_drew ?_ | refine blk_alloc ?_ _)); refine blk_far ?_ NB313_339.out _; (with_reducible repeat (first | refine blk_drewN ?_ _ | refine blk_drew ?_ | refine blk_alloc ?_ _)); exact BK313.out⟩, ⟨by (with_reducible repeat (first | refine blk_drewN ?_ _ | refine blk_drew ?_ | refine blk_alloc ?_ _)); refine blk_far ?_ NB314_339.out _; (with_reducible repeat (first | refine blk_drewN ?_ _ | refine blk_drew ?_ | refine blk_alloc ?_ _)); refine blk_far ?_ NB314_339.out _; (with_reducible repeat (first | refine blk_drewN ?_ _ | refine blk_drew ?_ | refine blk_alloc ?_ _)); exact BK314.out⟩, ⟨by (with_reducible repeat (first | refine blk_drewN ?_ _ | refine blk_drew ?_ | refine blk_alloc ?_ _)); refine blk_far ?_ NB319_339.out _; (with_reducible repeat (first | refine blk_drewN ?_ _ | refine blk_drew ?_ | refine blk_alloc ?_ _)); refine blk_far ?_ NB319_339.out _; (with_reducible repeat (first | refine blk_drewN ?_ _ | refine blk_drew ?_ | refine blk_alloc ?_ _)); exact BK319.out⟩, ⟨by (with_reducible repeat (first | refine blk_drewN ?_ _ | refine blk_drew ?_ | refine blk_alloc ?_ _)); refine blk_far ?_ NB323_339.out _; (with_reducible repeat (first | refine blk_drewN ?_ _ | refine blk_drew ?_ | refine blk_alloc ?_ _)); refine blk_far ?_ NB323_339.out _; (with_reducible repeat (first | refine blk_drewN ?_ _ | refine blk_drew ?_ | refine blk_alloc ?_ _)); exact BK323.out⟩, ⟨by (with_reducible repeat (first | refine blk_drewN ?_ _ | refine blk_drew ?_ | refine blk_alloc ?_ _)); refine blk_far ?_ NB329_339.out _; (with_reducible repeat (first | refine blk_drewN ?_ _ | refine blk_drew ?_ | refine blk_alloc ?_ _)); refine blk_far ?_ NB329_339.out _; (with_reducible repeat (first | refine blk_drewN ?_ _ | refine blk_drew ?_ | refine blk_alloc ?_ _)); exact BK329.out⟩, ⟨by (with_reducible repeat (first | refine blk_drewN ?_ _ | refine blk_drew ?_ | refine blk_alloc ?_ _)); refine blk_far ?_ NB333_339.out _; (with_reducible repeat (first | refine blk_drewN ?_ _ | refine blk_drew ?_ | refine blk_alloc ?_ _)); refine blk_far ?_ NB333_339.out _; (with_reducible repeat (first | refine blk_drewN ?_ _ | refine blk_drew ?_ | refine blk_alloc ?_ _)); exact BK333.out⟩, ⟨by (with_reducible repeat (first | refine blk_drewN ?_ _ | refine blk_drew ?_ | refine blk_alloc ?_ _)); refine blk_put (cs := #[.int .u64 t336, .int .u64 0]) ?_ 1 _ rfl; (with_reducible repeat (first | refine blk_drewN ?_ _ | refine blk_drew ?_ | refine blk_alloc ?_ _)); refine blk_put (cs := #[.int .u64 0, .int .u64 0]) ?_ 0 _ rfl; (with_reducible repeat (first | refine blk_drewN ?_ _ | refine blk_drew ?_ | refine blk_alloc ?_ _)); exact BK339.out⟩, ⟨bA⟩⟩
         ·replace c111 := Bool.eq_false_iff.mpr c111
          subst c111
          have H1 : (backfilllaw01_WideBack.j2 kj47 a2 t315 true a0_0 a0_1) = some r := by rw [if_neg (show ¬ (false = true) by decide)] at H; exact H
          clear H
          have H := H1
          clear H1
          have H' := Aside0.mk H
          clear H
          go_wp2
          go_meet
          case rel => exact ⟨_, (true), (by first | rfl | (simp; done) | (simp [*]; done)), H', ⟨by have := HJ6.out; have := HJ47.out; first | omega | exact Nat.le_refl _⟩, ⟨by (with_reducible repeat (first | refine blk_drewN ?_ _ | refine blk_drew ?_ | refine blk_alloc ?_ _)); refine blk_far ?_ NB313_339.out _; (with_reducible repeat (first | refine blk_drewN ?_ _ | refine blk_drew ?_ | refine blk_alloc ?_ _)); refine blk_far ?_ NB313_339.out _; (with_reducible repeat (first | refine blk_drewN ?_ _ | refine blk_drew ?_ | refine blk_alloc ?_ _)); exact BK313.out⟩, ⟨by (with_reducible repeat (first | refine blk_drewN ?_ _ | refine blk_drew ?_ | refine blk_alloc ?_ _)); refine blk_far ?_ NB314_339.out _; (with_reducible repeat (first | refine blk_drewN ?_ _ | refine blk_drew ?_ | refine blk_alloc ?_ _)); refine blk_far ?_ NB314_339.out _; (with_reducible repeat (first | refine blk_drewN ?_ _ | refine blk_drew ?_ | refine blk_alloc ?_ _)); exact BK314.out⟩, ⟨by (with_reducible repeat (first | refine blk_drewN ?_ _ | refine blk_drew ?_ | refine blk_alloc ?_ _)); refine blk_far ?_ NB319_339.out _; (with_reducible repeat (first | refine blk_drewN ?_ _ | refine blk_drew ?_ | refine blk_alloc ?_ _)); refine blk_far ?_ NB319_339.out _; (with_reducible repeat (first | refine blk_drewN ?_ _ | refine blk_drew ?_ | refine blk_alloc ?_ _)); exact BK319.out⟩, ⟨by (with_reducible repeat (first | refine blk_drewN ?_ _ | refine blk_drew ?_ | refine blk_alloc ?_ _)); refine blk_far ?_ NB323_339.out _; (with_reducible repeat (first | refine blk_drewN ?_ _ | refine blk_drew ?_ | refine blk_alloc ?_ _)); refine blk_far ?_ NB323_339.out _; (with_reducible repeat (first | refine blk_drewN ?_ _ | refine blk_drew ?_ | refine blk_alloc ?_ _)); exact BK323.out⟩, ⟨by (with_reducible repeat (first | refine blk_drewN ?_ _ | refine blk_drew ?_ | refine blk_alloc ?_ _)); refine blk_far ?_ NB329_339.out _; (with_reducible repeat (first | refine blk_drewN ?_ _ | refine blk_drew ?_ | refine blk_alloc ?_ _)); refine blk_far ?_ NB329_339.out _; (with_reducible repeat (first | refine blk_drewN ?_ _ | refine blk_drew ?_ | refine blk_alloc ?_ _)); exact BK329.out⟩, ⟨by (with_reducible repeat (first | refine blk_drewN ?_ _ | refine blk_drew ?_ | refine blk_alloc ?_ _)); refine blk_far ?_ NB333_339.out _; (with_reducible repeat (first | refine blk_drewN ?_ _ | refine blk_drew ?_ | refine blk_alloc ?_ _)); refine blk_far ?_ NB333_339.out _; (with_reducible repeat (first | refine blk_drewN ?_ _ | refine blk_drew ?_ | refine blk_alloc ?_ _)); exact BK333.out⟩, ⟨by (with_reducible repeat (first | refine blk_drewN ?_ _ | refine blk_drew ?_ | refine blk_alloc ?_ _)); refine blk_put (cs := #[.int .u64 t336, .int .u64 0]) ?_ 1 _ rfl; (with_reducible repeat (first | refine blk_drewN ?_ _ | refine blk_drew ?_ | refine blk_alloc ?_ _)); refine blk_put (cs := #[.int .u64 0, .int .u64 0]) ?_ 0 _ rfl; (with_reducible repeat (first | refine blk_drewN ?_ _ | refine blk_drew ?_ | refine blk_alloc ?_ _)); exact BK339.out⟩, ⟨bA⟩⟩
        ·replace c110 := Bool.eq_false_iff.mpr c110
         subst c110
         have H1 : (backfilllaw01_WideBack.j2 kj47 a2 t315 false a0_0 a0_1) = some r := by rw [if_neg (show ¬ (false = true) by decide)] at H; exact H
         clear H
         have H := H1
         clear H1
         have H' := Aside0.mk H
         clear H
         go_wp2
         go_meet
         case rel => exact ⟨_, (false), (by first | rfl | (simp; done) | (simp [*]; done)), H', ⟨by have := HJ6.out; have := HJ47.out; first | omega | exact Nat.le_refl _⟩, ⟨by (with_reducible repeat (first | refine blk_drewN ?_ _ | refine blk_drew ?_ | refine blk_alloc ?_ _)); refine blk_far ?_ NB313_339.out _; (with_reducible repeat (first | refine blk_drewN ?_ _ | refine blk_drew ?_ | refine blk_alloc ?_ _)); refine blk_far ?_ NB313_339.out _; (with_reducible repeat (first | refine blk_drewN ?_ _ | refine blk_drew ?_ | refine blk_alloc ?_ _)); exact BK313.out⟩, ⟨by (with_reducible repeat (first | refine blk_drewN ?_ _ | refine blk_drew ?_ | refine blk_alloc ?_ _)); refine blk_far ?_ NB314_339.out _; (with_reducible repeat (first | refine blk_drewN ?_ _ | refine blk_drew ?_ | refine blk_alloc ?_ _)); refine blk_far ?_ NB314_339.out _; (with_reducible repeat (first | refine blk_drewN ?_ _ | refine blk_drew ?_ | refine blk_alloc ?_ _)); exact BK314.out⟩, ⟨by (with_reducible repeat (first | refine blk_drewN ?_ _ | refine blk_drew ?_ | refine blk_alloc ?_ _)); refine blk_far ?_ NB319_339.out _; (with_reducible repeat (first | refine blk_drewN ?_ _ | refine blk_drew ?_ | refine blk_alloc ?_ _)); refine blk_far ?_ NB319_339.out _; (with_reducible repeat (first | refine blk_drewN ?_ _ | refine blk_drew ?_ | refine blk_alloc ?_ _)); exact BK319.out⟩, ⟨by (with_reducible repeat (first | refine blk_drewN ?_ _ | refine blk_drew ?_ | refine blk_alloc ?_ _)); refine blk_far ?_ NB323_339.out _; (with_reducible repeat (first | refine blk_drewN ?_ _ | refine blk_drew ?_ | refine blk_alloc ?_ _)); refine blk_far ?_ NB323_339.out _; (with_reducible repeat (first | refine blk_drewN ?_ _ | refine blk_drew ?_ | refine blk_alloc ?_ _)); exact BK323.out⟩, ⟨by (with_reducible repeat (first | refine blk_drewN ?_ _ | refine blk_drew ?_ | refine blk_alloc ?_ _)); refine blk_far ?_ NB329_339.out _; (with_reducible repeat (first | refine blk_drewN ?_ _ | refine blk_drew ?_ | refine blk_alloc ?_ _)); refine blk_far ?_ NB329_339.out _; (with_reducible repeat (first | refine blk_drewN ?_ _ | refine blk_drew ?_ | refine blk_alloc ?_ _)); exact BK329.out⟩, ⟨by (with_reducible repeat (first | refine blk_drewN ?_ _ | refine blk_drew ?_ | refine blk_alloc ?_ _)); refine blk_far ?_ NB333_339.out _; (with_reducible repeat (first | refine blk_drewN ?_ _ | refine blk_drew ?_ | refine blk_alloc ?_ _)); refine blk_far ?_ NB333_339.out _; (with_reducible repeat (first | refine blk_drewN ?_ _ | refine blk_drew ?_ | refine blk_alloc ?_ _)); exact BK333.out⟩, ⟨by (with_reducible repeat (first | refine blk_drewN ?_ _ | refine blk_drew ?_ | refine blk_alloc ?_ _)); refine blk_put (cs := #[.int .u64 t336, .int .u64 0]) ?_ 1 _ rfl; (with_reducible repeat (first | refine blk_drewN ?_ _ | refine blk_drew ?_ | refine blk_alloc ?_ _)); refine blk_put (cs := #[.int .u64 0, .int .u64 0]) ?_ 0 _ rfl; (with_reducible repeat (first | refine blk_drewN ?_ _ | refine blk_drew ?_ | refine blk_alloc ?_ _)); exact BK339.out⟩, ⟨bA⟩⟩
       case rest =>
        clear HC84
        try clear c1
        try clear p2
        try clear c4
        try clear c11
        try clear c12
        try clear c40
        try clear c46
        try clear c110
        try clear c111
        try clear c112
        try clear c113
        try clear c114
        try clear c115
        try clear c116
        try clear c117
        try clear c118
        try clear c120
        try clear c121
        try clear c122
        try clear c123
        try clear c124
        try clear hcz119_0
        try clear hcz119_1
        try clear hcz125_0
        try clear hcz125_1
        try clear hfz119_0
        try clear hfz119_1
        try clear hfz125_0
        try clear hfz125_1
        obtain ⟨kq, x98_83, rfl, HA, HJ83, BK313, BK314, BK319, BK323, BK329, BK333, BK339, HB⟩ := hcut
        cases kq with
        | zero => exact absurd HA.out (by simp [backfilllaw01_WideBack.j2])
        | succ kj83 =>
         have H := HA.out
         clear HA
         simp only [backfilllaw01_WideBack.j2] at H
         by_cases c126 : x98_83 = true
         ·subst c126
          have H1 : (none) = some r := by rw [if_pos rfl] at H; exact H
          clear H
          have H := H1
          clear H1
          exact absurd H (by simp)
         ·replace c126 := Bool.eq_false_iff.mpr c126
          subst c126
          have H1 : (if a2 ≥ 0 then (backfilllaw01_WideBack.j3 kj83 a2 t315 (decide (a2 < 128)) a0_0 a0_1) else (backfilllaw01_WideBack.j3 kj83 a2 t315 false a0_0 a0_1)) = some r := by rw [if_neg (show ¬ (false = true) by decide)] at H; exact H
          clear H
          have H := H1
          clear H1
          have HC127 := Aside0.mk H
          clear H
          go_upto_region 13 with (fail)
          go_cut [104] (fun v104 wc => ∃ (kq : Nat) (x104_126 : Bool), v104 = .bool x104_126 ∧ Aside0 (backfilllaw01_WideBack.j3 kq a2 t315 x104_126 a0_0 a0_1 = some r) ∧ Aside0 (kq ≤ kj83) ∧ Aside0 (wc.heap[gb313]? = some (.cells #[.int .u64 a0_0, .int .u64 a0_1] 25 (0, 0))) ∧ Aside0 (wc.heap[gb314]? = some (.cells #[.int .u64 a1_0, .int .u64 a1_1] 25 (0, 0))) ∧ Aside0 (wc.heap[gb319]? = some (.cells #[.int .u64 t316, .int .u64 t317] 25 (0, 0))) ∧ Aside0 (wc.heap[gb323]? = some (.cells #[.int .u64 t320, .int .u64 t321] 25 (0, 0))) ∧ Aside0 (wc.heap[gb329]? = some (.cells #[.int .u64 t325, .int .u64 t326] 25 (0, 0))) ∧ Aside0 (wc.heap[gb333]? = some (.cells #[.int .u64 t330, .int .u64 t331] 25 (0, 0))) ∧ Aside0 (wc.heap[gb339]? = some (.cells #[.int .u64 t336, .int .u64 t337] 25 (0, 0))) ∧ Aside0 (Below w.heap.size w wc))
          case first =>
           have H := HC127.out
           clear HC127
           by_cases c128 : a2 ≥ 0
           ·rw [if_pos c128] at H
            have c128b0 : decide (0 ≤ a2) = true := decide_eq_true c128
            clear c128
            (first | rw [c128b0] | (simp only [i64_w, i32_w]; rw [c128b0]) | skip)
            have H' := Aside0.mk H
            clear H
            go_wp2
            go_meet
            case rel => exact ⟨_, (decide (a2 < 128)), (by first | rfl | (simp; done) | (simp [*]; done)), H', ⟨by have := HJ6.out; have := HJ47.out; have := HJ83.out; first | omega | exact Nat.le_refl _⟩, ⟨by (with_reducible repeat (first | refine blk_drewN ?_ _ | refine blk_drew ?_ | refine blk_alloc ?_ _)); exact BK313.out⟩, ⟨by (with_reducible repeat (first | refine blk_drewN ?_ _ | refine blk_drew ?_ | refine blk_alloc ?_ _)); exact BK314.out⟩, ⟨by (with_reducible repeat (first | refine blk_drewN ?_ _ | refine blk_drew ?_ | refine blk_alloc ?_ _)); exact BK319.out⟩, ⟨by (with_reducible repeat (first | refine blk_drewN ?_ _ | refine blk_drew ?_ | refine blk_alloc ?_ _)); exact BK323.out⟩, ⟨by (with_reducible repeat (first | refine blk_drewN ?_ _ | refine blk_drew ?_ | refine blk_alloc ?_ _)); exact BK329.out⟩, ⟨by (with_reducible repeat (first | refine blk_drewN ?_ _ | refine blk_drew ?_ | refine blk_alloc ?_ _)); exact BK333.out⟩, ⟨by (with_reducible repeat (first | refine blk_drewN ?_ _ | refine blk_drew ?_ | refine blk_alloc ?_ _)); exact BK339.out⟩, ⟨bA⟩⟩
           ·rw [if_neg c128] at H
            have c128b0 : decide (0 ≤ a2) = false := decide_eq_false c128
            clear c128
            (first | rw [c128b0] | (simp only [i64_w, i32_w]; rw [c128b0]) | skip)
            have H' := Aside0.mk H
            clear H
            go_wp2
            go_meet
            case rel => exact ⟨_, (false), (by first | rfl | (simp; done) | (simp [*]; done)), H', ⟨by have := HJ6.out; have := HJ47.out; have := HJ83.out; first | omega | exact Nat.le_refl _⟩, ⟨by (with_reducible repeat (first | refine blk_drewN ?_ _ | refine blk_drew ?_ | refine blk_alloc ?_ _)); exact BK313.out⟩, ⟨by (with_reducible repeat (first | refine blk_drewN ?_ _ | refine blk_drew ?_ | refine blk_alloc ?_ _)); exact BK314.out⟩, ⟨by (with_reducible repeat (first | refine blk_drewN ?_ _ | refine blk_drew ?_ | refine blk_alloc ?_ _)); exact BK319.out⟩, ⟨by (with_reducible repeat (first | refine blk_drewN ?_ _ | refine blk_drew ?_ | refine blk_alloc ?_ _)); exact BK323.out⟩, ⟨by (with_reducible repeat (first | refine blk_drewN ?_ _ | refine blk_drew ?_ | refine blk_alloc ?_ _)); exact BK329.out⟩, ⟨by (with_reducible repeat (first | refine blk_drewN ?_ _ | refine blk_drew ?_ | refine blk_alloc ?_ _)); exact BK333.out⟩, ⟨by (with_reducible repeat (first | refine blk_drewN ?_ _ | refine blk_drew ?_ | refine blk_alloc ?_ _)); exact BK339.out⟩, ⟨bA⟩⟩
          case rest =>
           clear HC127
           try clear c1
           try clear p2
           try clear c4
           try clear c11
           try clear c12
           try clear c40
           try clear c46
           try clear c110
           try clear c111
           try clear c112
           try clear c113
           try clear c114
           try clear c115
           try clear c116
           try clear c117
           try clear c118
           try clear c120
           try clear c121
           try clear c122
           try clear c123
           try clear c124
           try clear c126
           try clear c128
           try clear c128b0
           try clear hcz119_0
           try clear hcz119_1
           try clear hcz125_0
           try clear hcz125_1
           try clear hfz119_0
           try clear hfz119_1
           try clear hfz125_0
           try clear hfz125_1
           try clear p2
           obtain ⟨kq, x104_126, rfl, HA, HJ126, BK313, BK314, BK319, BK323, BK329, BK333, BK339, HB⟩ := hcut
           cases kq with
           | zero => exact absurd HA.out (by simp [backfilllaw01_WideBack.j3])
           | succ kj126 =>
            have H := HA.out
            clear HA
            simp only [backfilllaw01_WideBack.j3] at H
            have HC129 := Aside0.mk H
            clear H
            go_upto_if 104 with (fail)
            go_cut [] (fun wc => ∃ (kq : Nat), Aside0 (backfilllaw01_WideBack.j4 kq t315 a0_0 a0_1 = some r) ∧ Aside0 (kq ≤ kj126) ∧ Aside0 (wc.heap[gb313]? = some (.cells #[.int .u64 a0_0, .int .u64 a0_1] 25 (0, 0))) ∧ Aside0 (wc.heap[gb314]? = some (.cells #[.int .u64 a1_0, .int .u64 a1_1] 25 (0, 0))) ∧ Aside0 (wc.heap[gb319]? = some (.cells #[.int .u64 t316, .int .u64 t317] 25 (0, 0))) ∧ Aside0 (wc.heap[gb323]? = some (.cells #[.int .u64 t320, .int .u64 t321] 25 (0, 0))) ∧ Aside0 (wc.heap[gb329]? = some (.cells #[.int .u64 t325, .int .u64 t326] 25 (0, 0))) ∧ Aside0 (wc.heap[gb333]? = some (.cells #[.int .u64 t330, .int .u64 t331] 25 (0, 0))) ∧ Aside0 (wc.heap[gb339]? = some (.cells #[.int .u64 t336, .int .u64 t337] 25 (0, 0))) ∧ Aside0 (Below w.heap.size w wc))
            case first =>
             have H := HC129.out
             clear HC129
             by_cases c130 : x104_126 = true
             ·subst c130
              have H1 : ((wide_Shr.f a0_0 a0_1 a2).bind fun bt340 => ((wide_Shl.f bt340.1 bt340.2 a2).bind fun bt342 => ((wide_Sub.f a0_0 a0_1 bt342.1 bt342.2).bind fun bt345 => ((wide_Cmp.f bt342.1 bt342.2 a0_0 a0_1).bind fun t349 => (if t349 > 0 then (none) else ((wide_Shr.f bt345.1 bt345.2.1 a2).bind fun bt350 => (if (!(bt350.1 == 0) || (!(bt350.2 == 0))) = true then (none) else ((wide_Shr.f a0_0 a0_1 a2).bind fun bt352 => ((wide_Shl.f bt352.1 bt352.2 a2).bind fun bt354 => ((wide_Shr.f bt354.1 bt354.2 a2).bind fun bt356 => ((wide_Shr.f a0_0 a0_1 a2).bind fun bt358 => (if (!(bt356.1 == bt358.1) || (!(bt356.2 == bt358.2))) = true then (none) else (backfilllaw01_WideBack.j4 kj126 t315 a0_0 a0_1))))))))))))) = some r := by rw [if_pos rfl] at H; exact H
              clear H
              have H := H1
              clear H1; replace H := Option.bind_eq_some_iff.mp H; obtain ⟨⟨t340, t341⟩, A1310, H⟩ := H; replace H : ((wide_Shl.f t340 t341 a2).bind fun bt342 => ((wide_Sub.f a0_0 a0_1 bt342.1 bt342.2).bind fun bt345 => ((wide_Cmp.f bt342.1 bt342.2 a0_0 a0_1).bind fun t349 => (if t349 > 0 then (none) else ((wide_Shr.f bt345.1 bt345.2.1 a2).bind fun bt350 => (if (!(bt350.1 == 0) || (!(bt350.2 == 0))) = true then (none) else ((wide_Shr.f a0_0 a0_1 a2).bind fun bt352 => ((wide_Shl.f bt352.1 bt352.2 a2).bind fun bt354 => ((wide_Shr.f bt354.1 bt354.2 a2).bind fun bt356 => ((wide_Shr.f a0_0 a0_1 a2).bind fun bt358 => (if (!(bt356.1 == bt358.1) || (!(bt356.2 == bt358.2))) = true then (none) else (backfilllaw01_WideBack.j4 kj126 t315 a0_0 a0_1)))))))))))) = some r := H; have A131 := Aside0.mk A1310; clear A1310; replace H := Option.bind_eq_some_iff.mp H; obtain ⟨⟨t342, t343⟩, A1320, H⟩ := H; replace H : ((wide_Sub.f a0_0 a0_1 t342 t343).bind fun bt345 => ((wide_Cmp.f t342 t343 a0_0 a0_1).bind fun t349 => (if t349 > 0 then (none) else ((wide_Shr.f bt345.1 bt345.2.1 a2).bind fun bt350 => (if (!(bt350.1 == 0) || (!(bt350.2 == 0))) = true then (none) else ((wide_Shr.f a0_0 a0_1 a2).bind fun bt352 => ((wide_Shl.f bt352.1 bt352.2 a2).bind fun bt354 => ((wide_Shr.f bt354.1 bt354.2 a2).bind fun bt356 => ((wide_Shr.f a0_0 a0_1 a2).bind fun bt358 => (if (!(bt356.1 == bt358.1) || (!(bt356.2 == bt358.2))) = true then (none) else (backfilllaw01_WideBack.j4 kj126 t315 a0_0 a0_1))))))))))) = some r := H; have A132 := Aside0.mk A1320; clear A1320; replace H := Option.bind_eq_some_iff.mp H; obtain ⟨⟨t345, t346, t347⟩, A1330, H⟩ := H; replace H : ((wide_Cmp.f t342 t343 a0_0 a0_1).bind fun t349 => (if t349 > 0 then (none) else ((wide_Shr.f t345 t346 a2).bind fun bt350 => (if (!(bt350.1 == 0) || (!(bt350.2 == 0))) = true then (none) else ((wide_Shr.f a0_0 a0_1 a2).bind fun bt352 => ((wide_Shl.f bt352.1 bt352.2 a2).bind fun bt354 => ((wide_Shr.f bt354.1 bt354.2 a2).bind fun bt356 => ((wide_Shr.f a0_0 a0_1 a2).bind fun bt358 => (if (!(bt356.1 == bt358.1) || (!(bt356.2 == bt358.2))) = true then (none) else (backfilllaw01_WideBack.j4 kj126 t315 a0_0 a0_1)))))))))) = some r := H; have A133 := Aside0.mk A1330; clear A1330; replace H := Option.bind_eq_some_iff.mp H; obtain ⟨t349, A1340, H⟩ := H; replace H : (if t349 > 0 then (none) else ((wide_Shr.f t345 t346 a2).bind fun bt350 => (if (!(bt350.1 == 0) || (!(bt350.2 == 0))) = true then (none) else ((wide_Shr.f a0_0 a0_1 a2).bind fun bt352 => ((wide_Shl.f bt352.1 bt352.2 a2).bind fun bt354 => ((wide_Shr.f bt354.1 bt354.2 a2).bind fun bt356 => ((wide_Shr.f a0_0 a0_1 a2).bind fun bt358 => (if (!(bt356.1 == bt358.1) || (!(bt356.2 == bt358.2))) = true then (none) else (backfilllaw01_WideBack.j4 kj126 t315 a0_0 a0_1))))))))) = some r := H; have A134 := Aside0.mk A1340; clear A1340
              by_cases c135 : t349 > 0
              ·rw [if_pos c135] at H
               have c135b0 : decide (0 < t349) = true := decide_eq_true c135
               clear c135
               (first | rw [c135b0] | (simp only [i64_w, i32_w]; rw [c135b0]) | skip)
               exact absurd H (by simp)
              ·rw [if_neg c135] at H
               have c135b0 : decide (0 < t349) = false := decide_eq_false c135
               clear c135
               (first | rw [c135b0] | (simp only [i64_w, i32_w]; rw [c135b0]) | skip)
               replace H := Option.bind_eq_some_iff.mp H; obtain ⟨⟨t350, t351⟩, A1360, H⟩ := H; replace H : (if (!(t350 == 0) || (!(t351 == 0))) = true then (none) else ((wide_Shr.f a0_0 a0_1 a2).bind fun bt352 => ((wide_Shl.f bt352.1 bt352.2 a2).bind fun bt354 => ((wide_Shr.f bt354.1 bt354.2 a2).bind fun bt356 => ((wide_Shr.f a0_0 a0_1 a2).bind fun bt358 => (if (!(bt356.1 == bt358.1) || (!(bt356.2 == bt358.2))) = true then (none) else (backfilllaw01_WideBack.j4 kj126 t315 a0_0 a0_1))))))) = some r := H; have A136 := Aside0.mk A1360; clear A1360
               by_cases c137 : (!(t350 == 0) || (!(t351 == 0))) = true
               ·rw [if_pos c137] at H
                have c137b0 : (!(t350 == 0) || (!(t351 == 0))) = true := c137
                clear c137
                exact absurd H (by simp)
               ·rw [if_neg c137] at H
                have c137b0 : (!(t350 == 0) || (!(t351 == 0))) = false := by simpa using c137
                clear c137; replace H := Option.bind_eq_some_iff.mp H; obtain ⟨⟨t352, t353⟩, A1380, H⟩ := H; replace H : ((wide_Shl.f t352 t353 a2).bind fun bt354 => ((wide_Shr.f bt354.1 bt354.2 a2).bind fun bt356 => ((wide_Shr.f a0_0 a0_1 a2).bind fun bt358 => (if (!(bt356.1 == bt358.1) || (!(bt356.2 == bt358.2))) = true then (none) else (backfilllaw01_WideBack.j4 kj126 t315 a0_0 a0_1))))) = some r := H; have A138 := Aside0.mk A1380; clear A1380; replace H := Option.bind_eq_some_iff.mp H; obtain ⟨⟨t354, t355⟩, A1390, H⟩ := H; replace H : ((wide_Shr.f t354 t355 a2).bind fun bt356 => ((wide_Shr.f a0_0 a0_1 a2).bind fun bt358 => (if (!(bt356.1 == bt358.1) || (!(bt356.2 == bt358.2))) = true then (none) else (backfilllaw01_WideBack.j4 kj126 t315 a0_0 a0_1)))) = some r := H; have A139 := Aside0.mk A1390; clear A1390; replace H := Option.bind_eq_some_iff.mp H; obtain ⟨⟨t356, t357⟩, A1400, H⟩ := H; replace H : ((wide_Shr.f a0_0 a0_1 a2).bind fun bt358 => (if (!(t356 == bt358.1) || (!(t357 == bt358.2))) = true then (none) else (backfilllaw01_WideBack.j4 kj126 t315 a0_0 a0_1))) = some r := H; have A140 := Aside0.mk A1400; clear A1400; replace H := Option.bind_eq_some_iff.mp H; obtain ⟨⟨t358, t359⟩, A1410, H⟩ := H; replace H : (if (!(t356 == t358) || (!(t357 == t359))) = true then (none) else (backfilllaw01_WideBack.j4 kj126 t315 a0_0 a0_1)) = some r := H; have A141 := Aside0.mk A1410; clear A1410
                by_cases c142 : (!(t356 == t358) || (!(t357 == t359))) = true
                ·rw [if_pos c142] at H
                 exact absurd H (by simp)
                ·rw [if_neg c142] at H
                 have c142b0 : (!(t356 == t358) || (!(t357 == t359))) = false := by simpa using c142
                 clear c142
                 have H' := Aside0.mk H
                 clear H
                 have hnb143 := NB313_314.out
                 have hnc143 := NB314_313.out
                 have hnb144 := NB313_319.out
                 have hnc144 := NB319_313.out
                 have hnb145 := NB313_323.out
                 have hnc145 := NB323_313.out
                 have hnb146 := NB313_329.out
                 have hnc146 := NB329_313.out
                 have hnb147 := NB313_333.out
                 have hnc147 := NB333_313.out
                 have hnb148 := NB313_339.out
                 have hnc148 := NB339_313.out
                 have hcz149_0 : wc.cell? ⟨gb313, 0, none⟩ = some (.int .u64 a0_0) := (blk_cell BK313.out 0).trans rfl
                 have hcz149_1 : wc.cell? ⟨gb313, 1, none⟩ = some (.int .u64 a0_1) := (blk_cell BK313.out 1).trans rfl
                 have hfz149_0 := blk_frozen BK313.out 0
                 have hfz149_1 := blk_frozen BK313.out 1
                 try go_wp2_with (first | ((with_reducible refine gate_callee (f := 20) rfl ?_); refine goesL_ (some 107) rfl rfl Try.func20 (by kernel_rfl) rfl #[.agg #[.int .u64 a0_0, .int .u64 a0_1], .int .i64 a2] rfl aA ?_; (with_reducible refine (wide_Shr.calls a0_0 a0_1 a2 t340 t341 _ A131.out).mono ?_); rintro e w150 ⟨rfl, hb⟩; refine ⟨_, rfl, ?_⟩; have n0_ := Aside0.mk (blk_below (g := gb313) (o := .cells #[.int .u64 a0_0, .int .u64 a0_1] 25 (0, 0)) kA hb); have n1_ := Aside0.mk (blk_below (g := gb314) (o := .cells #[.int .u64 a1_0, .int .u64 a1_1] 25 (0, 0)) kA hb); have n2_ := Aside0.mk (blk_below (g := gb319) (o := .cells #[.int .u64 t316, .int .u64 t317] 25 (0, 0)) kA hb); have n3_ := Aside0.mk (blk_below (g := gb323) (o := .cells #[.int .u64 t320, .int .u64 t321] 25 (0, 0)) kA hb); have n4_ := Aside0.mk (blk_below (g := gb329) (o := .cells #[.int .u64 t325, .int .u64 t326] 25 (0, 0)) kA hb); have n5_ := Aside0.mk (blk_below (g := gb333) (o := .cells #[.int .u64 t330, .int .u64 t331] 25 (0, 0)) kA hb); have n6_ := Aside0.mk (blk_below (g := gb339) (o := .cells #[.int .u64 t336, .int .u64 t337] 25 (0, 0)) kA hb); have n7_ := Aside0.mk (below_step bA hb); clear BK313 BK314 BK319 BK323 BK329 BK333 BK339 HB; have BK313 := n0_; have BK314 := n1_; have BK319 := n2_; have BK323 := n3_; have BK329 := n4_; have BK333 := n5_; have BK339 := n6_; have HB := n7_; clear n0_ n1_ n2_ n3_ n4_ n5_ n6_ n7_; (try clear hb)) | ((with_reducible refine gate_callee (f := 18) rfl ?_); refine goesL_ (some 109) rfl rfl Try.func18 (by kernel_rfl) rfl #[.agg #[.int .u64 t340, .int .u64 t341], .int .i64 a2] rfl aA ?_; (with_reducible refine (wide_Shl.calls t340 t341 a2 t342 t343 _ A132.out).mono ?_); rintro e w151 ⟨rfl, hb⟩; refine ⟨_, rfl, ?_⟩; have n0_ := Aside0.mk (blk_below (g := gb313) (o := .cells #[.int .u64 a0_0, .int .u64 a0_1] 25 (0, 0)) kA hb); have n1_ := Aside0.mk (blk_below (g := gb314) (o := .cells #[.int .u64 a1_0, .int .u64 a1_1] 25 (0, 0)) kA hb); have n2_ := Aside0.mk (blk_below (g := gb319) (o := .cells #[.int .u64 t316, .int .u64 t317] 25 (0, 0)) kA hb); have n3_ := Aside0.mk (blk_below (g := gb323) (o := .cells #[.int .u64 t320, .int .u64 t321] 25 (0, 0)) kA hb); have n4_ := Aside0.mk (blk_below (g := gb329) (o := .cells #[.int .u64 t325, .int .u64 t326] 25 (0, 0)) kA hb); have n5_ := Aside0.mk (blk_below (g := gb333) (o := .cells #[.int .u64 t330, .int .u64 t331] 25 (0, 0)) kA hb); have n6_ := Aside0.mk (blk_below (g := gb339) (o := .cells #[.int .u64 t336, .int .u64 t337] 25 (0, 0)) kA hb); have n7_ := Aside0.mk (below_step bA hb); clear BK313 BK314 BK319 BK323 BK329 BK333 BK339 HB; have BK313 := n0_; have BK314 := n1_; have BK319 := n2_; have BK323 := n3_; have BK329 := n4_; have BK333 := n5_; have BK339 := n6_; have HB := n7_; clear n0_ n1_ n2_ n3_ n4_ n5_ n6_ n7_; (try clear hb)) | ((with_reducible refine gate_dst (N := 19) rfl ?_); refine bxA 19 #[.int .u64 0, .int .u64 0] 25 ?_; intro gb344 hg w152 hbox hb; have n0_ := Aside0.mk (blk_below (g := gb313) (o := .cells #[.int .u64 a0_0, .int .u64 a0_1] 25 (0, 0)) kA hb); have n1_ := Aside0.mk (blk_below (g := gb314) (o := .cells #[.int .u64 a1_0, .int .u64 a1_1] 25 (0, 0)) kA hb); have n2_ := Aside0.mk (blk_below (g := gb319) (o := .cells #[.int .u64 t316, .int .u64 t317] 25 (0, 0)) kA hb); have n3_ := Aside0.mk (blk_below (g := gb323) (o := .cells #[.int .u64 t320, .int .u64 t321] 25 (0, 0)) kA hb); have n4_ := Aside0.mk (blk_below (g := gb329) (o := .cells #[.int .u64 t325, .int .u64 t326] 25 (0, 0)) kA hb); have n5_ := Aside0.mk (blk_below (g := gb333) (o := .cells #[.int .u64 t330, .int .u64 t331] 25 (0, 0)) kA hb); have n6_ := Aside0.mk (blk_below (g := gb339) (o := .cells #[.int .u64 t336, .int .u64 t337] 25 (0, 0)) kA hb); have n7_ := Aside0.mk (below_step bA hb); have n8_ := Aside0.mk (hbox); have n9_ := Aside0.mk ((by rw [hg]; exact (below_size bA) : w.heap.size ≤ gb344)); have n10_ := Aside0.mk ((by rw [hg]; exact (below_size bA) : w.heap.size ≤ gb344)); have n11_ := Aside0.mk ((by rw [hg]; exact Nat.ne_of_lt (blk_lt (g := gb313) (o := .cells #[.int .u64 a0_0, .int .u64 a0_1] 25 (0, 0)) kA) : gb313 ≠ gb344)); have n12_ := Aside0.mk ((by rw [hg]; exact Nat.ne_of_gt (blk_lt (g := gb313) (o := .cells #[.int .u64 a0_0, .int .u64 a0_1] 25 (0, 0)) kA) : gb344 ≠ gb313)); have n13_ := Aside0.mk ((by rw [hg]; exact Nat.ne_of_lt (blk_lt (g := gb314) (o := .cells #[.int .u64 a1_0, .int .u64 a1_1] 25 (0, 0)) kA) : gb314 ≠ gb344)); have n14_ := Aside0.mk ((by rw [hg]; exact Nat.ne_of_gt (blk_lt (g := gb314) (o := .cells #[.int .u64 a1_0, .int .u64 a1_1] 25 (0, 0)) kA) : gb344 ≠ gb314)); have n15_ := Aside0.mk ((by rw [hg]; exact Nat.ne_of_lt (blk_lt (g := gb319) (o := .cells #[.int .u64 t316, .int .u64 t317] 25 (0, 0)) kA) : gb319 ≠ gb344)); have n16_ := Aside0.mk ((by rw [hg]; exact Nat.ne_of_gt (blk_lt (g := gb319) (o := .cells #[.int .u64 t316, .int .u64 t317] 25 (0, 0)) kA) : gb344 ≠ gb319)); have n17_ := Aside0.mk ((by rw [hg]; exact Nat.ne_of_lt (blk_lt (g := gb323) (o := .cells #[.int .u64 t320, .int .u64 t321] 25 (0, 0)) kA) : gb323 ≠ gb344)); have n18_ := Aside0.mk ((by rw [hg]; exact Nat.ne_of_gt (blk_lt (g := gb323) (o := .cells #[.int .u64 t320, .int .u64 t321] 25 (0, 0)) kA) : gb344 ≠ gb323)); have n19_ := Aside0.mk ((by rw [hg]; exact Nat.ne_of_lt (blk_lt (g := gb329) (o := .cells #[.int .u64 t325, .int .u64 t326] 25 (0, 0)) kA) : gb329 ≠ gb344)); have n20_ := Aside0.mk ((by rw [hg]; exact Nat.ne_of_gt (blk_lt (g := gb329) (o := .cells #[.int .u64 t325, .int .u64 t326] 25 (0, 0)) kA) : gb344 ≠ gb329)); have n21_ := Aside0.mk ((by rw [hg]; exact Nat.ne_of_lt (blk_lt (g := gb333) (o := .cells #[.int .u64 t330, .int .u64 t331] 25 (0, 0)) kA) : gb333 ≠ gb344)); have n22_ := Aside0.mk ((by rw [hg]; exact Nat.ne_of_gt (blk_lt (g := gb333) (o := .cells #[.int .u64 t330, .int .u64 t331] 25 (0, 0)) kA) : gb344 ≠ gb333)); have n23_ := Aside0.mk ((by rw [hg]; exact Nat.ne_of_lt (blk_lt (g := gb339) (o := .cells #[.int .u64 t336, .int .u64 t337] 25 (0, 0)) kA) : gb339 ≠ gb344)); have n24_ := Aside0.mk ((by rw [hg]; exact Nat.ne_of_gt (blk_lt (g := gb339) (o := .cells #[.int .u64 t336, .int .u64 t337] 25 (0, 0)) kA) : gb344 ≠ gb339)); clear BK313 BK314 BK319 BK323 BK329 BK333 BK339 HB; have BK313 := n0_; have BK314 := n1_; have BK319 := n2_; have BK323 := n3_; have BK329 := n4_; have BK333 := n5_; have BK339 := n6_; have HB := n7_; have BK344 := n8_; have GW344 := n9_; have GE344 := n10_; have NB313_344 := n11_; have NB344_313 := n12_; have NB314_344 := n13_; have NB344_314 := n14_; have NB319_344 := n15_; have NB344_319 := n16_; have NB323_344 := n17_; have NB344_323 := n18_; have NB329_344 := n19_; have NB344_329 := n20_; have NB333_344 := n21_; have NB344_333 := n22_; have NB339_344 := n23_; have NB344_339 := n24_; clear n0_ n1_ n2_ n3_ n4_ n5_ n6_ n7_ n8_ n9_ n10_ n11_ n12_ n13_ n14_ n15_ n16_ n17_ n18_ n19_ n20_ n21_ n22_ n23_ n24_ hb hbox hg; have hnb153 := NB344_313.out; have hnc153 := NB313_344.out; have hnb154 := NB344_314.out; have hnc154 := NB314_344.out; have hnb155 := NB344_319.out; have hnc155 := NB319_344.out; have hnb156 := NB344_323.out; have hnc156 := NB323_344.out; have hnb157 := NB344_329.out; have hnc157 := NB329_344.out; have hnb158 := NB344_333.out; have hnc158 := NB333_344.out; have hnb159 := NB344_339.out; have hnc159 := NB339_344.out; have hcz160_0 : w152.cell? ⟨gb344, 0, none⟩ = some (.int .u64 0) := (blk_cell BK344.out 0).trans rfl; have hcz160_1 : w152.cell? ⟨gb344, 1, none⟩ = some (.int .u64 0) := (blk_cell BK344.out 1).trans rfl; have hfz160_0 := blk_frozen BK344.out 0; have hfz160_1 := blk_frozen BK344.out 1; have hcz161_0 : w152.cell? ⟨gb313, 0, none⟩ = some (.int .u64 a0_0) := (blk_cell BK313.out 0).trans rfl; have hcz161_1 : w152.cell? ⟨gb313, 1, none⟩ = some (.int .u64 a0_1) := (blk_cell BK313.out 1).trans rfl; have hfz161_0 := blk_frozen BK313.out 0; have hfz161_1 := blk_frozen BK313.out 1) | ((with_reducible refine gate_callee (f := 41) rfl ?_); refine goesL_ (some 113) rfl rfl Try.func41 (by kernel_rfl) rfl #[.agg #[.int .u64 a0_0, .int .u64 a0_1], .agg #[.int .u64 t342, .int .u64 t343]] rfl aA ?_; (with_reducible refine (wide_Sub.calls a0_0 a0_1 t342 t343 t345 t346 t347 _ A133.out).mono ?_); rintro e w162 ⟨rfl, hb⟩; refine ⟨_, rfl, ?_⟩; have n0_ := Aside0.mk (blk_below (g := gb313) (o := .cells #[.int .u64 a0_0, .int .u64 a0_1] 25 (0, 0)) (by (with_reducible repeat (first | refine blk_drewN ?_ _ | refine blk_drew ?_ | refine blk_alloc ?_ _)); refine blk_far ?_ NB313_344.out _; (with_reducible repeat (first | refine blk_drewN ?_ _ | refine blk_drew ?_ | refine blk_alloc ?_ _)); refine blk_far ?_ NB313_344.out _; (with_reducible repeat (first | refine blk_drewN ?_ _ | refine blk_drew ?_ | refine blk_alloc ?_ _)); exact BK313.out) hb); have n1_ := Aside0.mk (blk_below (g := gb314) (o := .cells #[.int .u64 a1_0, .int .u64 a1_1] 25 (0, 0)) (by (with_reducible repeat (first | refine blk_drewN ?_ _ | refine blk_drew ?_ | refine blk_alloc ?_ _)); refine blk_far ?_ NB314_344.out _; (with_reducible repeat (first | refine blk_drewN ?_ _ | refine blk_drew ?_ | refine blk_alloc ?_ _)); refine blk_far ?_ NB314_344.out _; (with_reducible repeat (first | refine blk_drewN ?_ _ | refine blk_drew ?_ | refine blk_alloc ?_ _)); exact BK314.out) hb); have n2_ := Aside0.mk (blk_below (g := gb319) (o := .cells #[.int .u64 t316, .int .u64 t317] 25 (0, 0)) (by (with_reducible repeat (first | refine blk_drewN ?_ _ | refine blk_drew ?_ | refine blk_alloc ?_ _)); refine blk_far ?_ NB319_344.out _; (with_reducible repeat (first | refine blk_drewN ?_ _ | refine blk_drew ?_ | refine blk_alloc ?_ _)); refine blk_far ?_ NB319_344.out _; (with_reducible repeat (first | refine blk_drewN ?_ _ | refine blk_drew ?_ | refine blk_alloc ?_ _)); exact BK319.out) hb); have n3_ := Aside0.mk (blk_below (g := gb323) (o := .cells #[.int .u64 t320, .int .u64 t321] 25 (0, 0)) (by (with_reducible repeat (first | refine blk_drewN ?_ _ | refine blk_drew ?_ | refine blk_alloc ?_ _)); refine blk_far ?_ NB323_344.out _; (with_reducible repeat (first | refine blk_drewN ?_ _ | refine blk_drew ?_ | refine blk_alloc ?_ _)); refine blk_far ?_ NB323_344.out _; (with_reducible repeat (first | refine blk_drewN ?_ _ | refine blk_drew ?_ | refine blk_alloc ?_ _)); exact BK323.out) hb); have n4_ := Aside0.mk (blk_below (g := gb329) (o := .cells #[.int .u64 t325, .int .u64 t326] 25 (0, 0)) (by (with_reducible repeat (first | refine blk_drewN ?_ _ | refine blk_drew ?_ | refine blk_alloc ?_ _)); refine blk_far ?_ NB329_344.out _; (with_reducible repeat (first | refine blk_drewN ?_ _ | refine blk_drew ?_ | refine blk_alloc ?_ _)); refine blk_far ?_ NB329_344.out _; (with_reducible repeat (first | refine blk_drewN ?_ _ | refine blk_drew ?_ | refine blk_alloc ?_ _)); exact BK329.out) hb); have n5_ := Aside0.mk (blk_below (g := gb333) (o := .cells #[.int .u64 t330, .int .u64 t331] 25 (0, 0)) (by (with_reducible repeat (first | refine blk_drewN ?_ _ | refine blk_drew ?_ | refine blk_alloc ?_ _)); refine blk_far ?_ NB333_344.out _; (with_reducible repeat (first | refine blk_drewN ?_ _ | refine blk_drew ?_ | refine blk_alloc ?_ _)); refine blk_far ?_ NB333_344.out _; (with_reducible repeat (first | refine blk_drewN ?_ _ | refine blk_drew ?_ | refine blk_alloc ?_ _)); exact BK333.out) hb); have n6_ := Aside0.mk (blk_below (g := gb339) (o := .cells #[.int .u64 t336, .int .u64 t337] 25 (0, 0)) (by (with_reducible repeat (first | refine blk_drewN ?_ _ | refine blk_drew ?_ | refine blk_alloc ?_ _)); refine blk_far ?_ NB339_344.out _; (with_reducible repeat (first | refine blk_drewN ?_ _ | refine blk_drew ?_ | refine blk_alloc ?_ _)); refine blk_far ?_ NB339_344.out _; (with_reducible repeat (first | refine blk_drewN ?_ _ | refine blk_drew ?_ | refine blk_alloc ?_ _)); exact BK339.out) hb); have n7_ := Aside0.mk (blk_below (g := gb344) (o := .cells #[.int .u64 t342, .int .u64 t343] 25 (0, 0)) (by (with_reducible repeat (first | refine blk_drewN ?_ _ | refine blk_drew ?_ | refine blk_alloc ?_ _)); refine blk_put (cs := #[.int .u64 t342, .int .u64 0]) ?_ 1 _ rfl; (with_reducible repeat (first | refine blk_drewN ?_ _ | refine blk_drew ?_ | refine blk_alloc ?_ _)); refine blk_put (cs := #[.int .u64 0, .int .u64 0]) ?_ 0 _ rfl; (with_reducible repeat (first | refine blk_drewN ?_ _ | refine blk_drew ?_ | refine blk_alloc ?_ _)); exact BK344.out) hb); have n8_ := Aside0.mk (below_step bA hb); clear BK313 BK314 BK319 BK323 BK329 BK333 BK339 BK344 HB; have BK313 := n0_; have BK314 := n1_; have BK319 := n2_; have BK323 := n3_; have BK329 := n4_; have BK333 := n5_; have BK339 := n6_; have BK344 := n7_; have HB := n8_; clear n0_ n1_ n2_ n3_ n4_ n5_ n6_ n7_ n8_; (try clear hb)) | ((with_reducible refine gate_dst (N := 20) rfl ?_); refine bxA 20 #[.int .u64 0, .int .u64 0] 25 ?_; intro gb348 hg w163 hbox hb; have n0_ := Aside0.mk (blk_below (g := gb313) (o := .cells #[.int .u64 a0_0, .int .u64 a0_1] 25 (0, 0)) kA hb); have n1_ := Aside0.mk (blk_below (g := gb314) (o := .cells #[.int .u64 a1_0, .int .u64 a1_1] 25 (0, 0)) kA hb); have n2_ := Aside0.mk (blk_below (g := gb319) (o := .cells #[.int .u64 t316, .int .u64 t317] 25 (0, 0)) kA hb); have n3_ := Aside0.mk (blk_below (g := gb323) (o := .cells #[.int .u64 t320, .int .u64 t321] 25 (0, 0)) kA hb); have n4_ := Aside0.mk (blk_below (g := gb329) (o := .cells #[.int .u64 t325, .int .u64 t326] 25 (0, 0)) kA hb); have n5_ := Aside0.mk (blk_below (g := gb333) (o := .cells #[.int .u64 t330, .int .u64 t331] 25 (0, 0)) kA hb); have n6_ := Aside0.mk (blk_below (g := gb339) (o := .cells #[.int .u64 t336, .int .u64 t337] 25 (0, 0)) kA hb); have n7_ := Aside0.mk (blk_below (g := gb344) (o := .cells #[.int .u64 t342, .int .u64 t343] 25 (0, 0)) kA hb); have n8_ := Aside0.mk (below_step bA hb); have n9_ := Aside0.mk (hbox); have n10_ := Aside0.mk ((by rw [hg]; exact (below_size bA) : w.heap.size ≤ gb348)); have n11_ := Aside0.mk ((by rw [hg]; exact (below_size bA) : w.heap.size ≤ gb348)); have n12_ := Aside0.mk ((by rw [hg]; exact Nat.ne_of_lt (blk_lt (g := gb313) (o := .cells #[.int .u64 a0_0, .int .u64 a0_1] 25 (0, 0)) kA) : gb313 ≠ gb348)); have n13_ := Aside0.mk ((by rw [hg]; exact Nat.ne_of_gt (blk_lt (g := gb313) (o := .cells #[.int .u64 a0_0, .int .u64 a0_1] 25 (0, 0)) kA) : gb348 ≠ gb313)); have n14_ := Aside0.mk ((by rw [hg]; exact Nat.ne_of_lt (blk_lt (g := gb314) (o := .cells #[.int .u64 a1_0, .int .u64 a1_1] 25 (0, 0)) kA) : gb314 ≠ gb348)); have n15_ := Aside0.mk ((by rw [hg]; exact Nat.ne_of_gt (blk_lt (g := gb314) (o := .cells #[.int .u64 a1_0, .int .u64 a1_1] 25 (0, 0)) kA) : gb348 ≠ gb314)); have n16_ := Aside0.mk ((by rw [hg]; exact Nat.ne_of_lt (blk_lt (g := gb319) (o := .cells #[.int .u64 t316, .int .u64 t317] 25 (0, 0)) kA) : gb319 ≠ gb348)); have n17_ := Aside0.mk ((by rw [hg]; exact Nat.ne_of_gt (blk_lt (g := gb319) (o := .cells #[.int .u64 t316, .int .u64 t317] 25 (0, 0)) kA) : gb348 ≠ gb319)); have n18_ := Aside0.mk ((by rw [hg]; exact Nat.ne_of_lt (blk_lt (g := gb323) (o := .cells #[.int .u64 t320, .int .u64 t321] 25 (0, 0)) kA) : gb323 ≠ gb348)); have n19_ := Aside0.mk ((by rw [hg]; exact Nat.ne_of_gt (blk_lt (g := gb323) (o := .cells #[.int .u64 t320, .int .u64 t321] 25 (0, 0)) kA) : gb348 ≠ gb323)); have n20_ := Aside0.mk ((by rw [hg]; exact Nat.ne_of_lt (blk_lt (g := gb329) (o := .cells #[.int .u64 t325, .int .u64 t326] 25 (0, 0)) kA) : gb329 ≠ gb348)); have n21_ := Aside0.mk ((by rw [hg]; exact Nat.ne_of_gt (blk_lt (g := gb329) (o := .cells #[.int .u64 t325, .int .u64 t326] 25 (0, 0)) kA) : gb348 ≠ gb329)); have n22_ := Aside0.mk ((by rw [hg]; exact Nat.ne_of_lt (blk_lt (g := gb333) (o := .cells #[.int .u64 t330, .int .u64 t331] 25 (0, 0)) kA) : gb333 ≠ gb348)); have n23_ := Aside0.mk ((by rw [hg]; exact Nat.ne_of_gt (blk_lt (g := gb333) (o := .cells #[.int .u64 t330, .int .u64 t331] 25 (0, 0)) kA) : gb348 ≠ gb333)); have n24_ := Aside0.mk ((by rw [hg]; exact Nat.ne_of_lt (blk_lt (g := gb339) (o := .cells #[.int .u64 t336, .int .u64 t337] 25 (0, 0)) kA) : gb339 ≠ gb348)); have n25_ := Aside0.mk ((by rw [hg]; exact Nat.ne_of_gt (blk_lt (g := gb339) (o := .cells #[.int .u64 t336, .int .u64 t337] 25 (0, 0)) kA) : gb348 ≠ gb339)); have n26_ := Aside0.mk ((by rw [hg]; exact Nat.ne_of_lt (blk_lt (g := gb344) (o := .cells #[.int .u64 t342, .int .u64 t343] 25 (0, 0)) kA) : gb344 ≠ gb348)); have n27_ := Aside0.mk ((by rw [hg]; exact Nat.ne_of_gt (blk_lt (g := gb344) (o := .cells #[.int .u64 t342, .int .u64 t343] 25 (0, 0)) kA) : gb348 ≠ gb344)); clear BK313 BK314 BK319 BK323 BK329 BK333 BK339 BK344 HB; have BK313 := n0_; have BK314 := n1_; have BK319 := n2_; have BK323 := n3_; have BK329 := n4_; have BK333 := n5_; have BK339 := n6_; have BK344 := n7_; have HB := n8_; have BK348 := n9_; have GW348 := n10_; have GE348 := n11_; have NB313_348 := n12_; have NB348_313 := n13_; have NB314_348 := n14_; have NB348_314 := n15_; have NB319_348 := n16_; have NB348_319 := n17_; have NB323_348 := n18_; have NB348_323 := n19_; have NB329_348 := n20_; have NB348_329 := n21_; have NB333_348 := n22_; have NB348_333 := n23_; have NB339_348 := n24_; have NB348_339 := n25_; have NB344_348 := n26_; have NB348_344 := n27_; clear n0_ n1_ n2_ n3_ n4_ n5_ n6_ n7_ n8_ n9_ n10_ n11_ n12_ n13_ n14_ n15_ n16_ n17_ n18_ n19_ n20_ n21_ n22_ n23_ n24_ n25_ n26_ n27_ hb hbox hg; have hnb164 := NB348_313.out; have hnc164 := NB313_348.out; have hnb165 := NB348_314.out; have hnc165 := NB314_348.out; have hnb166 := NB348_319.out; have hnc166 := NB319_348.out; have hnb167 := NB348_323.out; have hnc167 := NB323_348.out; have hnb168 := NB348_329.out; have hnc168 := NB329_348.out; have hnb169 := NB348_333.out; have hnc169 := NB333_348.out; have hnb170 := NB348_339.out; have hnc170 := NB339_348.out; have hnb171 := NB348_344.out; have hnc171 := NB344_348.out; have hcz172_0 : w163.cell? ⟨gb348, 0, none⟩ = some (.int .u64 0) := (blk_cell BK348.out 0).trans rfl; have hcz172_1 : w163.cell? ⟨gb348, 1, none⟩ = some (.int .u64 0) := (blk_cell BK348.out 1).trans rfl; have hfz172_0 := blk_frozen BK348.out 0; have hfz172_1 := blk_frozen BK348.out 1))
                 have n0_ : Aside0 (((w163.setCell ⟨gb348, 0, none⟩ (.int .u64 t345)).setCell ⟨gb348, 1, none⟩ (.int .u64 t346)).heap[gb313]? = some (.cells #[.int .u64 a0_0, .int .u64 a0_1] 25 (0, 0))) := ⟨by (with_reducible repeat (first | refine blk_drewN ?_ _ | refine blk_drew ?_ | refine blk_alloc ?_ _)); refine blk_far ?_ NB313_348.out _; (with_reducible repeat (first | refine blk_drewN ?_ _ | refine blk_drew ?_ | refine blk_alloc ?_ _)); refine blk_far ?_ NB313_348.out _; (with_reducible repeat (first | refine blk_drewN ?_ _ | refine blk_drew ?_ | refine blk_alloc ?_ _)); exact BK313.out⟩
                 have n1_ : Aside0 (((w163.setCell ⟨gb348, 0, none⟩ (.int .u64 t345)).setCell ⟨gb348, 1, none⟩ (.int .u64 t346)).heap[gb314]? = some (.cells #[.int .u64 a1_0, .int .u64 a1_1] 25 (0, 0))) := ⟨by (with_reducible repeat (first | refine blk_drewN ?_ _ | refine blk_drew ?_ | refine blk_alloc ?_ _)); refine blk_far ?_ NB314_348.out _; (with_reducible repeat (first | refine blk_drewN ?_ _ | refine blk_drew ?_ | refine blk_alloc ?_ _)); refine blk_far ?_ NB314_348.out _; (with_reducible repeat (first | refine blk_drewN ?_ _ | refine blk_drew ?_ | refine blk_alloc ?_ _)); exact BK314.out⟩
                 have n2_ : Aside0 (((w163.setCell ⟨gb348, 0, none⟩ (.int .u64 t345)).setCell ⟨gb348, 1, none⟩ (.int .u64 t346)).heap[gb319]? = some (.cells #[.int .u64 t316, .int .u64 t317] 25 (0, 0))) := ⟨by (with_reducible repeat (first | refine blk_drewN ?_ _ | refine blk_drew ?_ | refine blk_alloc ?_ _)); refine blk_far ?_ NB319_348.out _; (with_reducible repeat (first | refine blk_drewN ?_ _ | refine blk_drew ?_ | refine blk_alloc ?_ _)); refine blk_far ?_ NB319_348.out _; (with_reducible repeat (first | refine blk_drewN ?_ _ | refine blk_drew ?_ | refine blk_alloc ?_ _)); exact BK319.out⟩
                 have n3_ : Aside0 (((w163.setCell ⟨gb348, 0, none⟩ (.int .u64 t345)).setCell ⟨gb348, 1, none⟩ (.int .u64 t346)).heap[gb323]? = some (.cells #[.int .u64 t320, .int .u64 t321] 25 (0, 0))) := ⟨by (with_reducible repeat (first | refine blk_drewN ?_ _ | refine blk_drew ?_ | refine blk_alloc ?_ _)); refine blk_far ?_ NB323_348.out _; (with_reducible repeat (first | refine blk_drewN ?_ _ | refine blk_drew ?_ | refine blk_alloc ?_ _)); refine blk_far ?_ NB323_348.out _; (with_reducible repeat (first | refine blk_drewN ?_ _ | refine blk_drew ?_ | refine blk_alloc ?_ _)); exact BK323.out⟩
                 have n4_ : Aside0 (((w163.setCell ⟨gb348, 0, none⟩ (.int .u64 t345)).setCell ⟨gb348, 1, none⟩ (.int .u64 t346)).heap[gb329]? = some (.cells #[.int .u64 t325, .int .u64 t326] 25 (0, 0))) := ⟨by (with_reducible repeat (first | refine blk_drewN ?_ _ | refine blk_drew ?_ | refine blk_alloc ?_ _)); refine blk_far ?_ NB329_348.out _; (with_reducible repeat (first | refine blk_drewN ?_ _ | refine blk_drew ?_ | refine blk_alloc ?_ _)); refine blk_far ?_ NB329_348.out _; (with_reducible repeat (first | refine blk_drewN ?_ _ | refine blk_drew ?_ | refine blk_alloc ?_ _)); exact BK329.out⟩
                 have n5_ : Aside0 (((w163.setCell ⟨gb348, 0, none⟩ (.int .u64 t345)).setCell ⟨gb348, 1, none⟩ (.int .u64 t346)).heap[gb333]? = some (.cells #[.int .u64 t330, .int .u64 t331] 25 (0, 0))) := ⟨by (with_reducible repeat (first | refine blk_drewN ?_ _ | refine blk_drew ?_ | refine blk_alloc ?_ _)); refine blk_far ?_ NB333_348.out _; (with_reducible repeat (first | refine blk_drewN ?_ _ | refine blk_drew ?_ | refine blk_alloc ?_ _)); refine blk_far ?_ NB333_348.out _; (with_reducible repeat (first | refine blk_drewN ?_ _ | refine blk_drew ?_ | refine blk_alloc ?_ _)); exact BK333.out⟩
                 have n6_ : Aside0 (((w163.setCell ⟨gb348, 0, none⟩ (.int .u64 t345)).setCell ⟨gb348, 1, none⟩ (.int .u64 t346)).heap[gb339]? = some (.cells #[.int .u64 t336, .int .u64 t337] 25 (0, 0))) := ⟨by (with_reducible repeat (first | refine blk_drewN ?_ _ | refine blk_drew ?_ | refine blk_alloc ?_ _)); refine blk_far ?_ NB339_348.out _; (with_reducible repeat (first | refine blk_drewN ?_ _ | refine blk_drew ?_ | refine blk_alloc ?_ _)); refine blk_far ?_ NB339_348.out _; (with_reducible repeat (first | refine blk_drewN ?_ _ | refine blk_drew ?_ | refine blk_alloc ?_ _)); exact BK339.out⟩
                 have n7_ : Aside0 (((w163.setCell ⟨gb348, 0, none⟩ (.int .u64 t345)).setCell ⟨gb348, 1, none⟩ (.int .u64 t346)).heap[gb344]? = some (.cells #[.int .u64 t342, .int .u64 t343] 25 (0, 0))) := ⟨by (with_reducible repeat (first | refine blk_drewN ?_ _ | refine blk_drew ?_ | refine blk_alloc ?_ _)); refine blk_far ?_ NB344_348.out _; (with_reducible repeat (first | refine blk_drewN ?_ _ | refine blk_drew ?_ | refine blk_alloc ?_ _)); refine blk_far ?_ NB344_348.out _; (with_reducible repeat (first | refine blk_drewN ?_ _ | refine blk_drew ?_ | refine blk_alloc ?_ _)); exact BK344.out⟩
                 have n8_ : Aside0 (((w163.setCell ⟨gb348, 0, none⟩ (.int .u64 t345)).setCell ⟨gb348, 1, none⟩ (.int .u64 t346)).heap[gb348]? = some (.cells #[.int .u64 t345, .int .u64 t346] 25 (0, 0))) := ⟨by (with_reducible repeat (first | refine blk_drewN ?_ _ | refine blk_drew ?_ | refine blk_alloc ?_ _)); refine blk_put (cs := #[.int .u64 t345, .int .u64 0]) ?_ 1 _ rfl; (with_reducible repeat (first | refine blk_drewN ?_ _ | refine blk_drew ?_ | refine blk_alloc ?_ _)); refine blk_put (cs := #[.int .u64 0, .int .u64 0]) ?_ 0 _ rfl; (with_reducible repeat (first | refine blk_drewN ?_ _ | refine blk_drew ?_ | refine blk_alloc ?_ _)); exact BK348.out⟩
                 have n9_ : Aside0 (Below w.heap.size w ((w163.setCell ⟨gb348, 0, none⟩ (.int .u64 t345)).setCell ⟨gb348, 1, none⟩ (.int .u64 t346))) := ⟨bA⟩
                 (try clear BK313); (try clear BK314); (try clear BK319); (try clear BK323); (try clear BK329); (try clear BK333); (try clear BK339); (try clear BK344); (try clear BK348); (try clear HB)
                 generalize ((w163.setCell ⟨gb348, 0, none⟩ (.int .u64 t345)).setCell ⟨gb348, 1, none⟩ (.int .u64 t346)) = w173 at n0_ n1_ n2_ n3_ n4_ n5_ n6_ n7_ n8_ n9_ ⊢
                 have BK313 := n0_; have BK314 := n1_; have BK319 := n2_; have BK323 := n3_; have BK329 := n4_; have BK333 := n5_; have BK339 := n6_; have BK344 := n7_; have BK348 := n8_; have HB := n9_; clear n0_ n1_ n2_ n3_ n4_ n5_ n6_ n7_ n8_ n9_; have n0_ := Aside0.mk (blk_drew BK313.out); have n1_ := Aside0.mk (blk_drew BK314.out); have n2_ := Aside0.mk (blk_drew BK319.out); have n3_ := Aside0.mk (blk_drew BK323.out); have n4_ := Aside0.mk (blk_drew BK329.out); have n5_ := Aside0.mk (blk_drew BK333.out); have n6_ := Aside0.mk (blk_drew BK339.out); have n7_ := Aside0.mk (blk_drew BK344.out); have n8_ := Aside0.mk (blk_drew BK348.out); have n9_ := Aside0.mk (below_drew1 HB.out); clear BK313 BK314 BK319 BK323 BK329 BK333 BK339 BK344 BK348 HB; have BK313 := n0_; have BK314 := n1_; have BK319 := n2_; have BK323 := n3_; have BK329 := n4_; have BK333 := n5_; have BK339 := n6_; have BK344 := n7_; have BK348 := n8_; have HB := n9_; clear n0_ n1_ n2_ n3_ n4_ n5_ n6_ n7_ n8_ n9_
                 refine start_ (n := 24) (S := fun w' => w'.cell? ⟨gb344, 0, none⟩ = some (.int .u64 t342) ∧ w'.cell? ⟨gb344, 1, none⟩ = some (.int .u64 t343) ∧ w'.cell? ⟨gb313, 0, none⟩ = some (.int .u64 a0_0) ∧ w'.cell? ⟨gb313, 1, none⟩ = some (.int .u64 a0_1) ∧ w'.cell? ⟨gb348, 0, none⟩ = some (.int .u64 t345) ∧ w'.cell? ⟨gb348, 1, none⟩ = some (.int .u64 t346)) (ds := []) #[false, false, false, false, false, false, false, false, false, false, false, false, false, false, false, false, false, false, false, false, false, false, false, false] (by kernel_rfl) rfl rfl ⟨(blk_cell BK344.out 0).trans rfl, (blk_cell BK344.out 1).trans rfl, (blk_cell BK313.out 0).trans rfl, (blk_cell BK313.out 1).trans rfl, (blk_cell BK348.out 0).trans rfl, (blk_cell BK348.out 1).trans rfl⟩ (fun hHeld => ?_); refine with_tabW backfilllaw01_WideBack.tab16 backfilllaw01_WideBack.bits16 (fun HT_ HW_ => ?_)
                 generalize w173.drew = w174 at BK313 BK314 BK319 BK323 BK329 BK333 BK339 BK344 BK348 HB hHeld ⊢
                 refine take_ (i := 0) (N := some 116) (v := ?_) (a' := ?_) #[true, false, false, false, false, false, false, false, false, false, false, false, false, false, false, false, false, false, false, false, false, false, false, false] rfl rfl (take_ofW HT_.out HW_.out (by kernel_rfl)) (fun _ _ _ h => h) (Or.inl ⟨by rfl, ?_⟩) hHeld ?_ ?_
                 rotate_left
                 ·rintro w' ⟨s0, s1, s2, s3, s4, s5⟩
                  go_simp; with_reducible rfl
                 rotate_left
                 ·simp only [Act.put, List.setIfInBounds_toArray, List.set_cons_zero, List.set_cons_succ, i64_w, i32_w]
                  rfl
                 refine take_ (i := 1) (N := some 117) (v := ?_) (a' := ?_) #[true, true, false, false, false, false, false, false, false, false, false, false, false, false, false, false, false, false, false, false, false, false, false, false] rfl rfl (take_ofW HT_.out HW_.out (by kernel_rfl)) (fun _ _ _ h => h) (Or.inl ⟨by rfl, ?_⟩) hHeld ?_ ?_
                 rotate_left
                 ·rintro w' ⟨s0, s1, s2, s3, s4, s5⟩
                  go_simp; with_reducible rfl
                 rotate_left
                 ·simp only [Act.put, List.setIfInBounds_toArray, List.set_cons_zero, List.set_cons_succ, i64_w, i32_w]
                  rfl
                 refine one_ (i := 2) (N := some 118) #[true, true, true, false, false, false, false, false, false, false, false, false, false, false, false, false, false, false, false, false, false, false, false, false] rfl rfl (one_of HT_.out (by kernel_rfl)) (by decide) (fun K hK => ?_)
                 refine goes_ Try.func45 (by kernel_rfl) rfl #[.agg #[.int .u64 t342, .int .u64 t343], .agg #[.int .u64 a0_0, .int .u64 a0_1]] (by rfl) rfl rfl aA ?_
                 with_reducible refine (wide_Cmp.calls t342 t343 a0_0 a0_1 t349 _ A134.out).mono ?_
                 rintro e w175 ⟨rfl, hb⟩
                 refine ⟨_, rfl, ?_⟩; have n0_ := Aside0.mk (blk_below (g := gb313) (o := .cells #[.int .u64 a0_0, .int .u64 a0_1] 25 (0, 0)) kA hb); have n1_ := Aside0.mk (blk_below (g := gb314) (o := .cells #[.int .u64 a1_0, .int .u64 a1_1] 25 (0, 0)) kA hb); have n2_ := Aside0.mk (blk_below (g := gb319) (o := .cells #[.int .u64 t316, .int .u64 t317] 25 (0, 0)) kA hb); have n3_ := Aside0.mk (blk_below (g := gb323) (o := .cells #[.int .u64 t320, .int .u64 t321] 25 (0, 0)) kA hb); have n4_ := Aside0.mk (blk_below (g := gb329) (o := .cells #[.int .u64 t325, .int .u64 t326] 25 (0, 0)) kA hb); have n5_ := Aside0.mk (blk_below (g := gb333) (o := .cells #[.int .u64 t330, .int .u64 t331] 25 (0, 0)) kA hb); have n6_ := Aside0.mk (blk_below (g := gb339) (o := .cells #[.int .u64 t336, .int .u64 t337] 25 (0, 0)) kA hb); have n7_ := Aside0.mk (blk_below (g := gb344) (o := .cells #[.int .u64 t342, .int .u64 t343] 25 (0, 0)) kA hb); have n8_ := Aside0.mk (blk_below (g := gb348) (o := .cells #[.int .u64 t345, .int .u64 t346] 25 (0, 0)) kA hb); have n9_ := Aside0.mk (below_step bA hb); clear BK313 BK314 BK319 BK323 BK329 BK333 BK339 BK344 BK348 HB; have BK313 := n0_; have BK314 := n1_; have BK319 := n2_; have BK323 := n3_; have BK329 := n4_; have BK333 := n5_; have BK339 := n6_; have BK344 := n7_; have BK348 := n8_; have HB := n9_; clear n0_ n1_ n2_ n3_ n4_ n5_ n6_ n7_ n8_ n9_; (try clear hb)
                 refine hK.out _ _ ⟨(blk_cell BK344.out 0).trans rfl, (blk_cell BK344.out 1).trans rfl, (blk_cell BK313.out 0).trans rfl, (blk_cell BK313.out 1).trans rfl, (blk_cell BK348.out 0).trans rfl, (blk_cell BK348.out 1).trans rfl⟩ (fun hHeld => ?_)
                 clear hK K
                 refine norm_ (a' := ?_) ?_ ?_
                 rotate_left
                 ·show Act.put _ (some 118) _ = _
                  simp only [Act.put, List.setIfInBounds_toArray, List.set_cons_zero, List.set_cons_succ, i64_w, i32_w]
                  rfl
                 refine pure_ (i := 3) (N := some 119) (v := ?_) (a' := ?_) #[true, true, true, true, false, false, false, false, false, false, false, false, false, false, false, false, false, false, false, false, false, false, false, false] rfl rfl (any_of HT_.out (by kernel_rfl)) (fun _ _ _ h => h) (Or.inl ⟨by rfl, ?_⟩) ?_ ?_
                 rotate_left
                 ·intro w'
                  go_simp; with_reducible rfl
                 rotate_left
                 ·simp only [Act.put, List.setIfInBounds_toArray, List.set_cons_zero, List.set_cons_succ, i64_w, i32_w]
                  rfl
                 refine pure_ (i := 4) (N := some 120) (v := ?_) (a' := ?_) #[true, true, true, true, true, false, false, false, false, false, false, false, false, false, false, false, false, false, false, false, false, false, false, false] rfl rfl (any_of HT_.out (by kernel_rfl)) (fun _ _ _ h => h) (Or.inl ⟨by rfl, ?_⟩) ?_ ?_
                 rotate_left
                 ·intro w'
                  go_simp; with_reducible rfl
                 rotate_left
                 ·simp only [Act.put, List.setIfInBounds_toArray, List.set_cons_zero, List.set_cons_succ, i64_w, i32_w]
                  rfl
                 refine pure_ (i := 6) (N := some 122) (v := ?_) (a' := ?_) #[true, true, true, true, true, false, true, false, false, false, false, false, false, false, false, false, false, false, false, false, false, false, false, false] rfl rfl (any_of HT_.out (by kernel_rfl)) (fun _ _ _ h => h) (Or.inl ⟨by rfl, ?_⟩) ?_ ?_
                 rotate_left
                 ·intro w'
                  go_simp; with_reducible rfl
                 rotate_left
                 ·simp only [Act.put, List.setIfInBounds_toArray, List.set_cons_zero, List.set_cons_succ, i64_w, i32_w]
                  rfl
                 refine pure_ (i := 8) (N := some 124) (v := ?_) (a' := ?_) #[true, true, true, true, true, false, true, false, true, false, false, false, false, false, false, false, false, false, false, false, false, false, false, false] rfl rfl (any_of HT_.out (by kernel_rfl)) (fun _ _ _ h => h) (Or.inl ⟨by rfl, ?_⟩) ?_ ?_
                 rotate_left
                 ·intro w'
                  go_simp; with_reducible rfl
                 rotate_left
                 ·simp only [Act.put, List.setIfInBounds_toArray, List.set_cons_zero, List.set_cons_succ, i64_w, i32_w]
                  rfl
                 refine take_ (i := 5) (N := some 121) (v := ?_) (a' := ?_) #[true, true, true, true, true, true, true, false, true, false, false, false, false, false, false, false, false, false, false, false, false, false, false, false] rfl rfl (take_ofW HT_.out HW_.out (by kernel_rfl)) (fun _ _ _ h => h) (Or.inl ⟨by rfl, ?_⟩) hHeld ?_ ?_
                 rotate_left
                 ·rintro w' ⟨s0, s1, s2, s3, s4, s5⟩
                  go_simp; with_reducible rfl
                 rotate_left
                 ·simp only [Act.put, List.setIfInBounds_toArray, List.set_cons_zero, List.set_cons_succ, i64_w, i32_w]
                  rfl
                 refine one_ (i := 7) (N := some 123) #[true, true, true, true, true, true, true, true, true, false, false, false, false, false, false, false, false, false, false, false, false, false, false, false] rfl rfl (one_of HT_.out (by kernel_rfl)) (by decide) (fun K hK => ?_)
                 refine goes_ Try.func20 (by kernel_rfl) rfl #[.agg #[.int .u64 t345, .int .u64 t346], .int .i64 a2] (by rfl) rfl rfl aA ?_
                 with_reducible refine (wide_Shr.calls t345 t346 a2 t350 t351 _ A136.out).mono ?_
                 rintro e w176 ⟨rfl, hb⟩
                 refine ⟨_, rfl, ?_⟩; have n0_ := Aside0.mk (blk_below (g := gb313) (o := .cells #[.int .u64 a0_0, .int .u64 a0_1] 25 (0, 0)) kA hb); have n1_ := Aside0.mk (blk_below (g := gb314) (o := .cells #[.int .u64 a1_0, .int .u64 a1_1] 25 (0, 0)) kA hb); have n2_ := Aside0.mk (blk_below (g := gb319) (o := .cells #[.int .u64 t316, .int .u64 t317] 25 (0, 0)) kA hb); have n3_ := Aside0.mk (blk_below (g := gb323) (o := .cells #[.int .u64 t320, .int .u64 t321] 25 (0, 0)) kA hb); have n4_ := Aside0.mk (blk_below (g := gb329) (o := .cells #[.int .u64 t325, .int .u64 t326] 25 (0, 0)) kA hb); have n5_ := Aside0.mk (blk_below (g := gb333) (o := .cells #[.int .u64 t330, .int .u64 t331] 25 (0, 0)) kA hb); have n6_ := Aside0.mk (blk_below (g := gb339) (o := .cells #[.int .u64 t336, .int .u64 t337] 25 (0, 0)) kA hb); have n7_ := Aside0.mk (blk_below (g := gb344) (o := .cells #[.int .u64 t342, .int .u64 t343] 25 (0, 0)) kA hb); have n8_ := Aside0.mk (blk_below (g := gb348) (o := .cells #[.int .u64 t345, .int .u64 t346] 25 (0, 0)) kA hb); have n9_ := Aside0.mk (below_step bA hb); clear BK313 BK314 BK319 BK323 BK329 BK333 BK339 BK344 BK348 HB; have BK313 := n0_; have BK314 := n1_; have BK319 := n2_; have BK323 := n3_; have BK329 := n4_; have BK333 := n5_; have BK339 := n6_; have BK344 := n7_; have BK348 := n8_; have HB := n9_; clear n0_ n1_ n2_ n3_ n4_ n5_ n6_ n7_ n8_ n9_; (try clear hb)
                 refine hK.out _ _ ⟨(blk_cell BK344.out 0).trans rfl, (blk_cell BK344.out 1).trans rfl, (blk_cell BK313.out 0).trans rfl, (blk_cell BK313.out 1).trans rfl, (blk_cell BK348.out 0).trans rfl, (blk_cell BK348.out 1).trans rfl⟩ (fun hHeld => ?_)
                 clear hK K
                 refine norm_ (a' := ?_) ?_ ?_
                 rotate_left
                 ·show Act.put _ (some 123) _ = _
                  simp only [Act.put, List.setIfInBounds_toArray, List.set_cons_zero, List.set_cons_succ, i64_w, i32_w]
                  rfl
                 refine pure_ (i := 9) (N := some 125) (v := ?_) (a' := ?_) #[true, true, true, true, true, true, true, true, true, true, false, false, false, false, false, false, false, false, false, false, false, false, false, false] rfl rfl (any_of HT_.out (by kernel_rfl)) (fun _ _ _ h => h) (Or.inl ⟨by rfl, ?_⟩) ?_ ?_
                 rotate_left
                 ·intro w'
                  go_simp; with_reducible rfl
                 rotate_left
                 ·simp only [Act.put, List.setIfInBounds_toArray, List.set_cons_zero, List.set_cons_succ, i64_w, i32_w]
                  rfl
                 refine pure_ (i := 10) (N := some 126) (v := ?_) (a' := ?_) #[true, true, true, true, true, true, true, true, true, true, true, false, false, false, false, false, false, false, false, false, false, false, false, false] rfl rfl (any_of HT_.out (by kernel_rfl)) (fun _ _ _ h => h) (Or.inl ⟨by rfl, ?_⟩) ?_ ?_
                 rotate_left
                 ·intro w'
                  go_simp; with_reducible rfl
                 rotate_left
                 ·simp only [Act.put, List.setIfInBounds_toArray, List.set_cons_zero, List.set_cons_succ, i64_w, i32_w]
                  rfl
                 refine pure_ (i := 11) (N := some 127) (v := ?_) (a' := ?_) #[true, true, true, true, true, true, true, true, true, true, true, true, false, false, false, false, false, false, false, false, false, false, false, false] rfl rfl (any_of HT_.out (by kernel_rfl)) (fun _ _ _ h => h) (Or.inl ⟨by rfl, ?_⟩) ?_ ?_
                 rotate_left
                 ·intro w'
                  go_simp; with_reducible rfl
                 rotate_left
                 ·simp only [Act.put, List.setIfInBounds_toArray, List.set_cons_zero, List.set_cons_succ, i64_w, i32_w]
                  rfl
                 refine pure_ (i := 13) (N := some 129) (v := ?_) (a' := ?_) #[true, true, true, true, true, true, true, true, true, true, true, true, false, true, false, false, false, false, false, false, false, false, false, false] rfl rfl (any_of HT_.out (by kernel_rfl)) (fun _ _ _ h => h) (Or.inl ⟨by rfl, ?_⟩) ?_ ?_
                 rotate_left
                 ·intro w'
                  go_simp; with_reducible rfl
                 rotate_left
                 ·simp only [Act.put, List.setIfInBounds_toArray, List.set_cons_zero, List.set_cons_succ, i64_w, i32_w]
                  rfl
                 refine pure_ (i := 15) (N := some 131) (v := ?_) (a' := ?_) #[true, true, true, true, true, true, true, true, true, true, true, true, false, true, false, true, false, false, false, false, false, false, false, false] rfl rfl (any_of HT_.out (by kernel_rfl)) (fun _ _ _ h => h) (Or.inl ⟨by rfl, ?_⟩) ?_ ?_
                 rotate_left
                 ·intro w'
                  go_simp; with_reducible rfl
                 rotate_left
                 ·simp only [Act.put, List.setIfInBounds_toArray, List.set_cons_zero, List.set_cons_succ, i64_w, i32_w]
                  rfl
                 refine pure_ (i := 17) (N := some 133) (v := ?_) (a' := ?_) #[true, true, true, true, true, true, true, true, true, true, true, true, false, true, false, true, false, true, false, false, false, false, false, false] rfl rfl (any_of HT_.out (by kernel_rfl)) (fun _ _ _ h => h) (Or.inl ⟨by rfl, ?_⟩) ?_ ?_
                 rotate_left
                 ·intro w'
                  go_simp; with_reducible rfl
                 rotate_left
                 ·simp only [Act.put, List.setIfInBounds_toArray, List.set_cons_zero, List.set_cons_succ, i64_w, i32_w]
                  rfl
                 refine pure_ (i := 20) (N := some 136) (v := ?_) (a' := ?_) #[true, true, true, true, true, true, true, true, true, true, true, true, false, true, false, true, false, true, false, false, true, false, false, false] rfl rfl (any_of HT_.out (by kernel_rfl)) (fun _ _ _ h => h) (Or.inl ⟨by rfl, ?_⟩) ?_ ?_
                 rotate_left
                 ·intro w'
                  go_simp; with_reducible rfl
                 rotate_left
                 ·simp only [Act.put, List.setIfInBounds_toArray, List.set_cons_zero, List.set_cons_succ, i64_w, i32_w]
                  rfl
                 refine take_ (i := 12) (N := some 128) (v := ?_) (a' := ?_) #[true, true, true, true, true, true, true, true, true, true, true, true, true, true, false, true, false, true, false, false, true, false, false, false] rfl rfl (take_ofW HT_.out HW_.out (by kernel_rfl)) (fun _ _ _ h => h) (Or.inl ⟨by rfl, ?_⟩) hHeld ?_ ?_
                 rotate_left
                 ·rintro w' ⟨s0, s1, s2, s3, s4, s5⟩
                  go_simp; with_reducible rfl
                 rotate_left
                 ·simp only [Act.put, List.setIfInBounds_toArray, List.set_cons_zero, List.set_cons_succ, i64_w, i32_w]
                  rfl
                 refine take_ (i := 19) (N := some 135) (v := ?_) (a' := ?_) #[true, true, true, true, true, true, true, true, true, true, true, true, true, true, false, true, false, true, false, true, true, false, false, false] rfl rfl (take_ofW HT_.out HW_.out (by kernel_rfl)) (fun _ _ _ h => h) (Or.inl ⟨by rfl, ?_⟩) hHeld ?_ ?_
                 rotate_left
                 ·rintro w' ⟨s0, s1, s2, s3, s4, s5⟩
                  go_simp; with_reducible rfl
                 rotate_left
                 ·simp only [Act.put, List.setIfInBounds_toArray, List.set_cons_zero, List.set_cons_succ, i64_w, i32_w]
                  rfl
                 refine one_ (i := 14) (N := some 130) #[true, true, true, true, true, true, true, true, true, true, true, true, true, true, true, true, false, true, false, true, true, false, false, false] rfl rfl (one_of HT_.out (by kernel_rfl)) (by decide) (fun K hK => ?_)
                 refine goes_ Try.func20 (by kernel_rfl) rfl #[.agg #[.int .u64 a0_0, .int .u64 a0_1], .int .i64 a2] (by rfl) rfl rfl aA ?_
                 with_reducible refine (wide_Shr.calls a0_0 a0_1 a2 t352 t353 _ A138.out).mono ?_
                 rintro e w177 ⟨rfl, hb⟩
                 refine ⟨_, rfl, ?_⟩; have n0_ := Aside0.mk (blk_below (g := gb313) (o := .cells #[.int .u64 a0_0, .int .u64 a0_1] 25 (0, 0)) kA hb); have n1_ := Aside0.mk (blk_below (g := gb314) (o := .cells #[.int .u64 a1_0, .int .u64 a1_1] 25 (0, 0)) kA hb); have n2_ := Aside0.mk (blk_below (g := gb319) (o := .cells #[.int .u64 t316, .int .u64 t317] 25 (0, 0)) kA hb); have n3_ := Aside0.mk (blk_below (g := gb323) (o := .cells #[.int .u64 t320, .int .u64 t321] 25 (0, 0)) kA hb); have n4_ := Aside0.mk (blk_below (g := gb329) (o := .cells #[.int .u64 t325, .int .u64 t326] 25 (0, 0)) kA hb); have n5_ := Aside0.mk (blk_below (g := gb333) (o := .cells #[.int .u64 t330, .int .u64 t331] 25 (0, 0)) kA hb); have n6_ := Aside0.mk (blk_below (g := gb339) (o := .cells #[.int .u64 t336, .int .u64 t337] 25 (0, 0)) kA hb); have n7_ := Aside0.mk (blk_below (g := gb344) (o := .cells #[.int .u64 t342, .int .u64 t343] 25 (0, 0)) kA hb); have n8_ := Aside0.mk (blk_below (g := gb348) (o := .cells #[.int .u64 t345, .int .u64 t346] 25 (0, 0)) kA hb); have n9_ := Aside0.mk (below_step bA hb); clear BK313 BK314 BK319 BK323 BK329 BK333 BK339 BK344 BK348 HB; have BK313 := n0_; have BK314 := n1_; have BK319 := n2_; have BK323 := n3_; have BK329 := n4_; have BK333 := n5_; have BK339 := n6_; have BK344 := n7_; have BK348 := n8_; have HB := n9_; clear n0_ n1_ n2_ n3_ n4_ n5_ n6_ n7_ n8_ n9_; (try clear hb)
                 refine hK.out _ _ ⟨(blk_cell BK344.out 0).trans rfl, (blk_cell BK344.out 1).trans rfl, (blk_cell BK313.out 0).trans rfl, (blk_cell BK313.out 1).trans rfl, (blk_cell BK348.out 0).trans rfl, (blk_cell BK348.out 1).trans rfl⟩ (fun hHeld => ?_)
                 clear hK K
                 refine norm_ (a' := ?_) ?_ ?_
                 rotate_left
                 ·show Act.put _ (some 130) _ = _
                  simp only [Act.put, List.setIfInBounds_toArray, List.set_cons_zero, List.set_cons_succ, i64_w, i32_w]
                  rfl
                 refine one_ (i := 16) (N := some 132) #[true, true, true, true, true, true, true, true, true, true, true, true, true, true, true, true, true, true, false, true, true, false, false, false] rfl rfl (one_of HT_.out (by kernel_rfl)) (by decide) (fun K hK => ?_)
                 refine goes_ Try.func18 (by kernel_rfl) rfl #[.agg #[.int .u64 t352, .int .u64 t353], .int .i64 a2] (by rfl) rfl rfl aA ?_
                 with_reducible refine (wide_Shl.calls t352 t353 a2 t354 t355 _ A139.out).mono ?_
                 rintro e w178 ⟨rfl, hb⟩
                 refine ⟨_, rfl, ?_⟩; have n0_ := Aside0.mk (blk_below (g := gb313) (o := .cells #[.int .u64 a0_0, .int .u64 a0_1] 25 (0, 0)) kA hb); have n1_ := Aside0.mk (blk_below (g := gb314) (o := .cells #[.int .u64 a1_0, .int .u64 a1_1] 25 (0, 0)) kA hb); have n2_ := Aside0.mk (blk_below (g := gb319) (o := .cells #[.int .u64 t316, .int .u64 t317] 25 (0, 0)) kA hb); have n3_ := Aside0.mk (blk_below (g := gb323) (o := .cells #[.int .u64 t320, .int .u64 t321] 25 (0, 0)) kA hb); have n4_ := Aside0.mk (blk_below (g := gb329) (o := .cells #[.int .u64 t325, .int .u64 t326] 25 (0, 0)) kA hb); have n5_ := Aside0.mk (blk_below (g := gb333) (o := .cells #[.int .u64 t330, .int .u64 t331] 25 (0, 0)) kA hb); have n6_ := Aside0.mk (blk_below (g := gb339) (o := .cells #[.int .u64 t336, .int .u64 t337] 25 (0, 0)) kA hb); have n7_ := Aside0.mk (blk_below (g := gb344) (o := .cells #[.int .u64 t342, .int .u64 t343] 25 (0, 0)) kA hb); have n8_ := Aside0.mk (blk_below (g := gb348) (o := .cells #[.int .u64 t345, .int .u64 t346] 25 (0, 0)) kA hb); have n9_ := Aside0.mk (below_step bA hb); clear BK313 BK314 BK319 BK323 BK329 BK333 BK339 BK344 BK348 HB; have BK313 := n0_; have BK314 := n1_; have BK319 := n2_; have BK323 := n3_; have BK329 := n4_; have BK333 := n5_; have BK339 := n6_; have BK344 := n7_; have BK348 := n8_; have HB := n9_; clear n0_ n1_ n2_ n3_ n4_ n5_ n6_ n7_ n8_ n9_; (try clear hb)
                 refine hK.out _ _ ⟨(blk_cell BK344.out 0).trans rfl, (blk_cell BK344.out 1).trans rfl, (blk_cell BK313.out 0).trans rfl, (blk_cell BK313.out 1).trans rfl, (blk_cell BK348.out 0).trans rfl, (blk_cell BK348.out 1).trans rfl⟩ (fun hHeld => ?_)
                 clear hK K
                 refine norm_ (a' := ?_) ?_ ?_
                 rotate_left
                 ·show Act.put _ (some 132) _ = _
                  simp only [Act.put, List.setIfInBounds_toArray, List.set_cons_zero, List.set_cons_succ, i64_w, i32_w]
                  rfl
                 refine one_ (i := 18) (N := some 134) #[true, true, true, true, true, true, true, true, true, true, true, true, true, true, true, true, true, true, true, true, true, false, false, false] rfl rfl (one_of HT_.out (by kernel_rfl)) (by decide) (fun K hK => ?_)
                 refine goes_ Try.func20 (by kernel_rfl) rfl #[.agg #[.int .u64 t354, .int .u64 t355], .int .i64 a2] (by rfl) rfl rfl aA ?_
                 with_reducible refine (wide_Shr.calls t354 t355 a2 t356 t357 _ A140.out).mono ?_
                 rintro e w179 ⟨rfl, hb⟩
                 refine ⟨_, rfl, ?_⟩; have n0_ := Aside0.mk (blk_below (g := gb313) (o := .cells #[.int .u64 a0_0, .int .u64 a0_1] 25 (0, 0)) kA hb); have n1_ := Aside0.mk (blk_below (g := gb314) (o := .cells #[.int .u64 a1_0, .int .u64 a1_1] 25 (0, 0)) kA hb); have n2_ := Aside0.mk (blk_below (g := gb319) (o := .cells #[.int .u64 t316, .int .u64 t317] 25 (0, 0)) kA hb); have n3_ := Aside0.mk (blk_below (g := gb323) (o := .cells #[.int .u64 t320, .int .u64 t321] 25 (0, 0)) kA hb); have n4_ := Aside0.mk (blk_below (g := gb329) (o := .cells #[.int .u64 t325, .int .u64 t326] 25 (0, 0)) kA hb); have n5_ := Aside0.mk (blk_below (g := gb333) (o := .cells #[.int .u64 t330, .int .u64 t331] 25 (0, 0)) kA hb); have n6_ := Aside0.mk (blk_below (g := gb339) (o := .cells #[.int .u64 t336, .int .u64 t337] 25 (0, 0)) kA hb); have n7_ := Aside0.mk (blk_below (g := gb344) (o := .cells #[.int .u64 t342, .int .u64 t343] 25 (0, 0)) kA hb); have n8_ := Aside0.mk (blk_below (g := gb348) (o := .cells #[.int .u64 t345, .int .u64 t346] 25 (0, 0)) kA hb); have n9_ := Aside0.mk (below_step bA hb); clear BK313 BK314 BK319 BK323 BK329 BK333 BK339 BK344 BK348 HB; have BK313 := n0_; have BK314 := n1_; have BK319 := n2_; have BK323 := n3_; have BK329 := n4_; have BK333 := n5_; have BK339 := n6_; have BK344 := n7_; have BK348 := n8_; have HB := n9_; clear n0_ n1_ n2_ n3_ n4_ n5_ n6_ n7_ n8_ n9_; (try clear hb)
                 refine hK.out _ _ ⟨(blk_cell BK344.out 0).trans rfl, (blk_cell BK344.out 1).trans rfl, (blk_cell BK313.out 0).trans rfl, (blk_cell BK313.out 1).trans rfl, (blk_cell BK348.out 0).trans rfl, (blk_cell BK348.out 1).trans rfl⟩ (fun hHeld => ?_)
                 clear hK K
                 refine norm_ (a' := ?_) ?_ ?_
                 rotate_left
                 ·show Act.put _ (some 134) _ = _
                  simp only [Act.put, List.setIfInBounds_toArray, List.set_cons_zero, List.set_cons_succ, i64_w, i32_w]
                  rfl
                 refine one_ (i := 21) (N := some 137) #[true, true, true, true, true, true, true, true, true, true, true, true, true, true, true, true, true, true, true, true, true, true, false, false] rfl rfl (one_of HT_.out (by kernel_rfl)) (by decide) (fun K hK => ?_)
                 refine goes_ Try.func20 (by kernel_rfl) rfl #[.agg #[.int .u64 a0_0, .int .u64 a0_1], .int .i64 a2] (by rfl) rfl rfl aA ?_
                 with_reducible refine (wide_Shr.calls a0_0 a0_1 a2 t358 t359 _ A141.out).mono ?_
                 rintro e w180 ⟨rfl, hb⟩
                 refine ⟨_, rfl, ?_⟩; have n0_ := Aside0.mk (blk_below (g := gb313) (o := .cells #[.int .u64 a0_0, .int .u64 a0_1] 25 (0, 0)) kA hb); have n1_ := Aside0.mk (blk_below (g := gb314) (o := .cells #[.int .u64 a1_0, .int .u64 a1_1] 25 (0, 0)) kA hb); have n2_ := Aside0.mk (blk_below (g := gb319) (o := .cells #[.int .u64 t316, .int .u64 t317] 25 (0, 0)) kA hb); have n3_ := Aside0.mk (blk_below (g := gb323) (o := .cells #[.int .u64 t320, .int .u64 t321] 25 (0, 0)) kA hb); have n4_ := Aside0.mk (blk_below (g := gb329) (o := .cells #[.int .u64 t325, .int .u64 t326] 25 (0, 0)) kA hb); have n5_ := Aside0.mk (blk_below (g := gb333) (o := .cells #[.int .u64 t330, .int .u64 t331] 25 (0, 0)) kA hb); have n6_ := Aside0.mk (blk_below (g := gb339) (o := .cells #[.int .u64 t336, .int .u64 t337] 25 (0, 0)) kA hb); have n7_ := Aside0.mk (blk_below (g := gb344) (o := .cells #[.int .u64 t342, .int .u64 t343] 25 (0, 0)) kA hb); have n8_ := Aside0.mk (blk_below (g := gb348) (o := .cells #[.int .u64 t345, .int .u64 t346] 25 (0, 0)) kA hb); have n9_ := Aside0.mk (below_step bA hb); clear BK313 BK314 BK319 BK323 BK329 BK333 BK339 BK344 BK348 HB; have BK313 := n0_; have BK314 := n1_; have BK319 := n2_; have BK323 := n3_; have BK329 := n4_; have BK333 := n5_; have BK339 := n6_; have BK344 := n7_; have BK348 := n8_; have HB := n9_; clear n0_ n1_ n2_ n3_ n4_ n5_ n6_ n7_ n8_ n9_; (try clear hb)
                 refine hK.out _ _ ⟨(blk_cell BK344.out 0).trans rfl, (blk_cell BK344.out 1).trans rfl, (blk_cell BK313.out 0).trans rfl, (blk_cell BK313.out 1).trans rfl, (blk_cell BK348.out 0).trans rfl, (blk_cell BK348.out 1).trans rfl⟩ (fun hHeld => ?_)
                 clear hK K
                 refine norm_ (a' := ?_) ?_ ?_
                 rotate_left
                 ·show Act.put _ (some 137) _ = _
                  simp only [Act.put, List.setIfInBounds_toArray, List.set_cons_zero, List.set_cons_succ, i64_w, i32_w]
                  rfl
                 refine pure_ (i := 22) (N := some 138) (v := ?_) (a' := ?_) #[true, true, true, true, true, true, true, true, true, true, true, true, true, true, true, true, true, true, true, true, true, true, true, false] rfl rfl (any_of HT_.out (by kernel_rfl)) (fun _ _ _ h => h) (Or.inl ⟨by rfl, ?_⟩) ?_ ?_
                 rotate_left
                 ·intro w'
                  go_simp; with_reducible rfl
                 rotate_left
                 ·simp only [Act.put, List.setIfInBounds_toArray, List.set_cons_zero, List.set_cons_succ, i64_w, i32_w]
                  rfl
                 refine pure_ (i := 23) (N := some 139) (v := ?_) (a' := ?_) #[true, true, true, true, true, true, true, true, true, true, true, true, true, true, true, true, true, true, true, true, true, true, true, true] rfl rfl (any_of HT_.out (by kernel_rfl)) (fun _ _ _ h => h) (Or.inl ⟨by rfl, ?_⟩) ?_ ?_
                 rotate_left
                 ·intro w'
                  go_simp; with_reducible rfl
                 rotate_left
                 ·simp only [Act.put, List.setIfInBounds_toArray, List.set_cons_zero, List.set_cons_succ, i64_w, i32_w]
                  rfl
                 refine done_ (done_of HT_.out (by kernel_rfl)) ?_
                 try go_wp2
                 go_meet
                 case rel => exact ⟨_, H', ⟨by have := HJ6.out; have := HJ47.out; have := HJ83.out; have := HJ126.out; first | omega | exact Nat.le_refl _⟩, ⟨by (with_reducible repeat (first | refine blk_drewN ?_ _ | refine blk_drew ?_ | refine blk_alloc ?_ _)); exact BK313.out⟩, ⟨by (with_reducible repeat (first | refine blk_drewN ?_ _ | refine blk_drew ?_ | refine blk_alloc ?_ _)); exact BK314.out⟩, ⟨by (with_reducible repeat (first | refine blk_drewN ?_ _ | refine blk_drew ?_ | refine blk_alloc ?_ _)); exact BK319.out⟩, ⟨by (with_reducible repeat (first | refine blk_drewN ?_ _ | refine blk_drew ?_ | refine blk_alloc ?_ _)); exact BK323.out⟩, ⟨by (with_reducible repeat (first | refine blk_drewN ?_ _ | refine blk_drew ?_ | refine blk_alloc ?_ _)); exact BK329.out⟩, ⟨by (with_reducible repeat (first | refine blk_drewN ?_ _ | refine blk_drew ?_ | refine blk_alloc ?_ _)); exact BK333.out⟩, ⟨by (with_reducible repeat (first | refine blk_drewN ?_ _ | refine blk_drew ?_ | refine blk_alloc ?_ _)); exact BK339.out⟩, ⟨bA⟩⟩
             ·replace c130 := Bool.eq_false_iff.mpr c130
              subst c130
              have H1 : (backfilllaw01_WideBack.j4 kj126 t315 a0_0 a0_1) = some r := by rw [if_neg (show ¬ (false = true) by decide)] at H; exact H
              clear H
              have H := H1
              clear H1
              have H' := Aside0.mk H
              clear H
              go_wp2
              go_meet
              case rel => exact ⟨_, H', ⟨by have := HJ6.out; have := HJ47.out; have := HJ83.out; have := HJ126.out; first | omega | exact Nat.le_refl _⟩, ⟨by (with_reducible repeat (first | refine blk_drewN ?_ _ | refine blk_drew ?_ | refine blk_alloc ?_ _)); exact BK313.out⟩, ⟨by (with_reducible repeat (first | refine blk_drewN ?_ _ | refine blk_drew ?_ | refine blk_alloc ?_ _)); exact BK314.out⟩, ⟨by (with_reducible repeat (first | refine blk_drewN ?_ _ | refine blk_drew ?_ | refine blk_alloc ?_ _)); exact BK319.out⟩, ⟨by (with_reducible repeat (first | refine blk_drewN ?_ _ | refine blk_drew ?_ | refine blk_alloc ?_ _)); exact BK323.out⟩, ⟨by (with_reducible repeat (first | refine blk_drewN ?_ _ | refine blk_drew ?_ | refine blk_alloc ?_ _)); exact BK329.out⟩, ⟨by (with_reducible repeat (first | refine blk_drewN ?_ _ | refine blk_drew ?_ | refine blk_alloc ?_ _)); exact BK333.out⟩, ⟨by (with_reducible repeat (first | refine blk_drewN ?_ _ | refine blk_drew ?_ | refine blk_alloc ?_ _)); exact BK339.out⟩, ⟨bA⟩⟩
            case rest =>
             clear HC129
             try clear c1
             try clear c2
             try clear p2
             try clear c4
             try clear c13
             try clear c14
             try clear c15
             try clear c16
             try clear c17
             try clear c18
             try clear c20
             try clear c41
             try clear c45
             try clear c130
             try clear c135
             try clear c135b0
             try clear c137
             try clear c137b0
             try clear c142
             try clear c142b0
             try clear c143
             try clear c144
             try clear c145
             try clear c146
             try clear c147
             try clear c148
             try clear c153
             try clear c154
             try clear c155
             try clear c156
             try clear c157
             try clear c158
             try clear c159
             try clear c164
             try clear c165
             try clear c166
             try clear c167
             try clear c168
             try clear c169
             try clear c170
             try clear c171
             try clear hcz149_0
             try clear hcz149_1
             try clear hcz160_0
             try clear hcz160_1
             try clear hcz161_0
             try clear hcz161_1
             try clear hcz172_0
             try clear hcz172_1
             try clear hfz149_0
             try clear hfz149_1
             try clear hfz160_0
             try clear hfz160_1
             try clear hfz161_0
             try clear hfz161_1
             try clear hfz172_0
             try clear hfz172_1
             obtain ⟨kq, HA, HJ128, BK313, BK314, BK319, BK323, BK329, BK333, BK339, HB⟩ := hcut
             cases kq with
             | zero => exact absurd HA.out (by simp [backfilllaw01_WideBack.j4])
             | succ kj128 =>
              have H := HA.out
              clear HA
              simp only [backfilllaw01_WideBack.j4] at H
              replace H := Option.bind_eq_some_iff.mp H; obtain ⟨t360, A1810, H⟩ := H; replace H : ((wide_Mul.f (IntKind.u64.wrap (t360 + 1)) (IntKind.u64.wrap (t360 + 1))).bind fun bt361 => (if t315 = true then ((wide_Mul.f t360 t360).bind fun bt364 => ((wide_Cmp.f bt364.1 bt364.2 a0_0 a0_1).bind fun t366 => (if t366 ≤ 0 then (if t360 = 18446744073709551615 then (some true) else ((wide_Cmp.f bt361.1 bt361.2 a0_0 a0_1).bind fun t367 => (some (decide (t367 > 0))))) else (none)))) else (none))) = some r := H; have A181 := Aside0.mk A1810; clear A1810; replace H := Option.bind_eq_some_iff.mp H; obtain ⟨⟨t361, t362⟩, A1820, H⟩ := H; replace H : (if t315 = true then ((wide_Mul.f t360 t360).bind fun bt364 => ((wide_Cmp.f bt364.1 bt364.2 a0_0 a0_1).bind fun t366 => (if t366 ≤ 0 then (if t360 = 18446744073709551615 then (some true) else ((wide_Cmp.f t361 t362 a0_0 a0_1).bind fun t367 => (some (decide (t367 > 0))))) else (none)))) else (none)) = some r := H; have A182 := Aside0.mk A1820; clear A1820
              by_cases c183 : t315 = true
              ·subst c183
               have H1 : ((wide_Mul.f t360 t360).bind fun bt364 => ((wide_Cmp.f bt364.1 bt364.2 a0_0 a0_1).bind fun t366 => (if t366 ≤ 0 then (if t360 = 18446744073709551615 then (some true) else ((wide_Cmp.f t361 t362 a0_0 a0_1).bind fun t367 => (some (decide (t367 > 0))))) else (none)))) = some r := by rw [if_pos rfl] at H; exact H
               clear H
               have H := H1
               clear H1; replace H := Option.bind_eq_some_iff.mp H; obtain ⟨⟨t364, t365⟩, A1840, H⟩ := H; replace H : ((wide_Cmp.f t364 t365 a0_0 a0_1).bind fun t366 => (if t366 ≤ 0 then (if t360 = 18446744073709551615 then (some true) else ((wide_Cmp.f t361 t362 a0_0 a0_1).bind fun t367 => (some (decide (t367 > 0))))) else (none))) = some r := H; have A184 := Aside0.mk A1840; clear A1840; replace H := Option.bind_eq_some_iff.mp H; obtain ⟨t366, A1850, H⟩ := H; replace H : (if t366 ≤ 0 then (if t360 = 18446744073709551615 then (some true) else ((wide_Cmp.f t361 t362 a0_0 a0_1).bind fun t367 => (some (decide (t367 > 0))))) else (none)) = some r := H; have A185 := Aside0.mk A1850; clear A1850
               by_cases c186 : t366 ≤ 0
               ·rw [if_pos c186] at H
                have c186b0 : decide (t366 ≤ 0) = true := decide_eq_true c186
                clear c186
                by_cases c187 : t360 = 18446744073709551615
                ·rw [if_pos c187] at H
                 have c187b0 : (t360 == 18446744073709551615) = true := beq_iff_eq.mpr c187
                 have c187b1 : (t360 != 18446744073709551615) = false := bne_eq_false_iff_eq.mpr c187
                 clear c187
                 obtain rfl := Option.some.inj H
                 have hnb188 := NB313_314.out
                 have hnc188 := NB314_313.out
                 have hnb189 := NB313_319.out
                 have hnc189 := NB319_313.out
                 have hnb190 := NB313_323.out
                 have hnc190 := NB323_313.out
                 have hnb191 := NB313_329.out
                 have hnc191 := NB329_313.out
                 have hnb192 := NB313_333.out
                 have hnc192 := NB333_313.out
                 have hnb193 := NB313_339.out
                 have hnc193 := NB339_313.out
                 have hcz194_0 : wc.cell? ⟨gb313, 0, none⟩ = some (.int .u64 a0_0) := (blk_cell BK313.out 0).trans rfl
                 have hcz194_1 : wc.cell? ⟨gb313, 1, none⟩ = some (.int .u64 a0_1) := (blk_cell BK313.out 1).trans rfl
                 have hfz194_0 := blk_frozen BK313.out 0
                 have hfz194_1 := blk_frozen BK313.out 1
                 try go_wp2_with (first | ((with_reducible refine gate_callee (f := 22) rfl ?_); refine goesL_ (some 141) rfl rfl Try.func22 (by kernel_rfl) rfl #[.agg #[.int .u64 a0_0, .int .u64 a0_1]] rfl aA ?_; (with_reducible refine (wide_Sqrt.calls kj128 a0_0 a0_1 t360 _ A181.out).mono ?_); rintro e w195 ⟨rfl, hb⟩; refine ⟨_, rfl, ?_⟩; have n0_ := Aside0.mk (blk_below (g := gb313) (o := .cells #[.int .u64 a0_0, .int .u64 a0_1] 25 (0, 0)) kA hb); have n1_ := Aside0.mk (blk_below (g := gb314) (o := .cells #[.int .u64 a1_0, .int .u64 a1_1] 25 (0, 0)) kA hb); have n2_ := Aside0.mk (blk_below (g := gb319) (o := .cells #[.int .u64 t316, .int .u64 t317] 25 (0, 0)) kA hb); have n3_ := Aside0.mk (blk_below (g := gb323) (o := .cells #[.int .u64 t320, .int .u64 t321] 25 (0, 0)) kA hb); have n4_ := Aside0.mk (blk_below (g := gb329) (o := .cells #[.int .u64 t325, .int .u64 t326] 25 (0, 0)) kA hb); have n5_ := Aside0.mk (blk_below (g := gb333) (o := .cells #[.int .u64 t330, .int .u64 t331] 25 (0, 0)) kA hb); have n6_ := Aside0.mk (blk_below (g := gb339) (o := .cells #[.int .u64 t336, .int .u64 t337] 25 (0, 0)) kA hb); have n7_ := Aside0.mk (below_step bA hb); clear BK313 BK314 BK319 BK323 BK329 BK333 BK339 HB; have BK313 := n0_; have BK314 := n1_; have BK319 := n2_; have BK323 := n3_; have BK329 := n4_; have BK333 := n5_; have BK339 := n6_; have HB := n7_; clear n0_ n1_ n2_ n3_ n4_ n5_ n6_ n7_; (try clear hb)) | ((with_reducible refine gate_callee (f := 47) rfl ?_); refine goesL_ (some 146) rfl rfl Try.func47 (by kernel_rfl) rfl #[.int .u64 (IntKind.u64.wrap (t360 + 1)), .int .u64 (IntKind.u64.wrap (t360 + 1))] rfl aA ?_; (with_reducible refine (wide_Mul.calls (IntKind.u64.wrap (t360 + 1)) (IntKind.u64.wrap (t360 + 1)) t361 t362 _ A182.out).mono ?_); rintro e w196 ⟨rfl, hb⟩; refine ⟨_, rfl, ?_⟩; have n0_ := Aside0.mk (blk_below (g := gb313) (o := .cells #[.int .u64 a0_0, .int .u64 a0_1] 25 (0, 0)) kA hb); have n1_ := Aside0.mk (blk_below (g := gb314) (o := .cells #[.int .u64 a1_0, .int .u64 a1_1] 25 (0, 0)) kA hb); have n2_ := Aside0.mk (blk_below (g := gb319) (o := .cells #[.int .u64 t316, .int .u64 t317] 25 (0, 0)) kA hb); have n3_ := Aside0.mk (blk_below (g := gb323) (o := .cells #[.int .u64 t320, .int .u64 t321] 25 (0, 0)) kA hb); have n4_ := Aside0.mk (blk_below (g := gb329) (o := .cells #[.int .u64 t325, .int .u64 t326] 25 (0, 0)) kA hb); have n5_ := Aside0.mk (blk_below (g := gb333) (o := .cells #[.int .u64 t330, .int .u64 t331] 25 (0, 0)) kA hb); have n6_ := Aside0.mk (blk_below (g := gb339) (o := .cells #[.int .u64 t336, .int .u64 t337] 25 (0, 0)) kA hb); have n7_ := Aside0.mk (below_step bA hb); clear BK313 BK314 BK319 BK323 BK329 BK333 BK339 HB; have BK313 := n0_; have BK314 := n1_; have BK319 := n2_; have BK323 := n3_; have BK329 := n4_; have BK333 := n5_; have BK339 := n6_; have HB := n7_; clear n0_ n1_ n2_ n3_ n4_ n5_ n6_ n7_; (try clear hb)) | ((with_reducible refine gate_dst (N := 23) rfl ?_); refine bxA 23 #[.int .u64 0, .int .u64 0] 25 ?_; intro gb363 hg w197 hbox hb; have n0_ := Aside0.mk (blk_below (g := gb313) (o := .cells #[.int .u64 a0_0, .int .u64 a0_1] 25 (0, 0)) kA hb); have n1_ := Aside0.mk (blk_below (g := gb314) (o := .cells #[.int .u64 a1_0, .int .u64 a1_1] 25 (0, 0)) kA hb); have n2_ := Aside0.mk (blk_below (g := gb319) (o := .cells #[.int .u64 t316, .int .u64 t317] 25 (0, 0)) kA hb); have n3_ := Aside0.mk (blk_below (g := gb323) (o := .cells #[.int .u64 t320, .int .u64 t321] 25 (0, 0)) kA hb); have n4_ := Aside0.mk (blk_below (g := gb329) (o := .cells #[.int .u64 t325, .int .u64 t326] 25 (0, 0)) kA hb); have n5_ := Aside0.mk (blk_below (g := gb333) (o := .cells #[.int .u64 t330, .int .u64 t331] 25 (0, 0)) kA hb); have n6_ := Aside0.mk (blk_below (g := gb339) (o := .cells #[.int .u64 t336, .int .u64 t337] 25 (0, 0)) kA hb); have n7_ := Aside0.mk (below_step bA hb); have n8_ := Aside0.mk (hbox); have n9_ := Aside0.mk ((by rw [hg]; exact (below_size bA) : w.heap.size ≤ gb363)); have n10_ := Aside0.mk ((by rw [hg]; exact (below_size bA) : w.heap.size ≤ gb363)); have n11_ := Aside0.mk ((by rw [hg]; exact Nat.ne_of_lt (blk_lt (g := gb313) (o := .cells #[.int .u64 a0_0, .int .u64 a0_1] 25 (0, 0)) kA) : gb313 ≠ gb363)); have n12_ := Aside0.mk ((by rw [hg]; exact Nat.ne_of_gt (blk_lt (g := gb313) (o := .cells #[.int .u64 a0_0, .int .u64 a0_1] 25 (0, 0)) kA) : gb363 ≠ gb313)); have n13_ := Aside0.mk ((by rw [hg]; exact Nat.ne_of_lt (blk_lt (g := gb314) (o := .cells #[.int .u64 a1_0, .int .u64 a1_1] 25 (0, 0)) kA) : gb314 ≠ gb363)); have n14_ := Aside0.mk ((by rw [hg]; exact Nat.ne_of_gt (blk_lt (g := gb314) (o := .cells #[.int .u64 a1_0, .int .u64 a1_1] 25 (0, 0)) kA) : gb363 ≠ gb314)); have n15_ := Aside0.mk ((by rw [hg]; exact Nat.ne_of_lt (blk_lt (g := gb319) (o := .cells #[.int .u64 t316, .int .u64 t317] 25 (0, 0)) kA) : gb319 ≠ gb363)); have n16_ := Aside0.mk ((by rw [hg]; exact Nat.ne_of_gt (blk_lt (g := gb319) (o := .cells #[.int .u64 t316, .int .u64 t317] 25 (0, 0)) kA) : gb363 ≠ gb319)); have n17_ := Aside0.mk ((by rw [hg]; exact Nat.ne_of_lt (blk_lt (g := gb323) (o := .cells #[.int .u64 t320, .int .u64 t321] 25 (0, 0)) kA) : gb323 ≠ gb363)); have n18_ := Aside0.mk ((by rw [hg]; exact Nat.ne_of_gt (blk_lt (g := gb323) (o := .cells #[.int .u64 t320, .int .u64 t321] 25 (0, 0)) kA) : gb363 ≠ gb323)); have n19_ := Aside0.mk ((by rw [hg]; exact Nat.ne_of_lt (blk_lt (g := gb329) (o := .cells #[.int .u64 t325, .int .u64 t326] 25 (0, 0)) kA) : gb329 ≠ gb363)); have n20_ := Aside0.mk ((by rw [hg]; exact Nat.ne_of_gt (blk_lt (g := gb329) (o := .cells #[.int .u64 t325, .int .u64 t326] 25 (0, 0)) kA) : gb363 ≠ gb329)); have n21_ := Aside0.mk ((by rw [hg]; exact Nat.ne_of_lt (blk_lt (g := gb333) (o := .cells #[.int .u64 t330, .int .u64 t331] 25 (0, 0)) kA) : gb333 ≠ gb363)); have n22_ := Aside0.mk ((by rw [hg]; exact Nat.ne_of_gt (blk_lt (g := gb333) (o := .cells #[.int .u64 t330, .int .u64 t331] 25 (0, 0)) kA) : gb363 ≠ gb333)); have n23_ := Aside0.mk ((by rw [hg]; exact Nat.ne_of_lt (blk_lt (g := gb339) (o := .cells #[.int .u64 t336, .int .u64 t337] 25 (0, 0)) kA) : gb339 ≠ gb363)); have n24_ := Aside0.mk ((by rw [hg]; exact Nat.ne_of_gt (blk_lt (g := gb339) (o := .cells #[.int .u64 t336, .int .u64 t337] 25 (0, 0)) kA) : gb363 ≠ gb339)); clear BK313 BK314 BK319 BK323 BK329 BK333 BK339 HB; have BK313 := n0_; have BK314 := n1_; have BK319 := n2_; have BK323 := n3_; have BK329 := n4_; have BK333 := n5_; have BK339 := n6_; have HB := n7_; have BK363 := n8_; have GW363 := n9_; have GE363 := n10_; have NB313_363 := n11_; have NB363_313 := n12_; have NB314_363 := n13_; have NB363_314 := n14_; have NB319_363 := n15_; have NB363_319 := n16_; have NB323_363 := n17_; have NB363_323 := n18_; have NB329_363 := n19_; have NB363_329 := n20_; have NB333_363 := n21_; have NB363_333 := n22_; have NB339_363 := n23_; have NB363_339 := n24_; clear n0_ n1_ n2_ n3_ n4_ n5_ n6_ n7_ n8_ n9_ n10_ n11_ n12_ n13_ n14_ n15_ n16_ n17_ n18_ n19_ n20_ n21_ n22_ n23_ n24_ hb hbox hg; have hnb198 := NB363_313.out; have hnc198 := NB313_363.out; have hnb199 := NB363_314.out; have hnc199 := NB314_363.out; have hnb200 := NB363_319.out; have hnc200 := NB319_363.out; have hnb201 := NB363_323.out; have hnc201 := NB323_363.out; have hnb202 := NB363_329.out; have hnc202 := NB329_363.out; have hnb203 := NB363_333.out; have hnc203 := NB333_363.out; have hnb204 := NB363_339.out; have hnc204 := NB339_363.out; have hcz205_0 : w197.cell? ⟨gb363, 0, none⟩ = some (.int .u64 0) := (blk_cell BK363.out 0).trans rfl; have hcz205_1 : w197.cell? ⟨gb363, 1, none⟩ = some (.int .u64 0) := (blk_cell BK363.out 1).trans rfl; have hfz205_0 := blk_frozen BK363.out 0; have hfz205_1 := blk_frozen BK363.out 1))
                 have n0_ : Aside0 (((w197.setCell ⟨gb363, 0, none⟩ (.int .u64 t361)).setCell ⟨gb363, 1, none⟩ (.int .u64 t362)).heap[gb313]? = some (.cells #[.int .u64 a0_0, .int .u64 a0_1] 25 (0, 0))) := ⟨by (with_reducible repeat (first | refine blk_drewN ?_ _ | refine blk_drew ?_ | refine blk_alloc ?_ _)); refine blk_far ?_ NB313_363.out _; (with_reducible repeat (first | refine blk_drewN ?_ _ | refine blk_drew ?_ | refine blk_alloc ?_ _)); refine blk_far ?_ NB313_363.out _; (with_reducible repeat (first | refine blk_drewN ?_ _ | refine blk_drew ?_ | refine blk_alloc ?_ _)); exact BK313.out⟩
                 have n1_ : Aside0 (((w197.setCell ⟨gb363, 0, none⟩ (.int .u64 t361)).setCell ⟨gb363, 1, none⟩ (.int .u64 t362)).heap[gb314]? = some (.cells #[.int .u64 a1_0, .int .u64 a1_1] 25 (0, 0))) := ⟨by (with_reducible repeat (first | refine blk_drewN ?_ _ | refine blk_drew ?_ | refine blk_alloc ?_ _)); refine blk_far ?_ NB314_363.out _; (with_reducible repeat (first | refine blk_drewN ?_ _ | refine blk_drew ?_ | refine blk_alloc ?_ _)); refine blk_far ?_ NB314_363.out _; (with_reducible repeat (first | refine blk_drewN ?_ _ | refine blk_drew ?_ | refine blk_alloc ?_ _)); exact BK314.out⟩
                 have n2_ : Aside0 (((w197.setCell ⟨gb363, 0, none⟩ (.int .u64 t361)).setCell ⟨gb363, 1, none⟩ (.int .u64 t362)).heap[gb319]? = some (.cells #[.int .u64 t316, .int .u64 t317] 25 (0, 0))) := ⟨by (with_reducible repeat (first | refine blk_drewN ?_ _ | refine blk_drew ?_ | refine blk_alloc ?_ _)); refine blk_far ?_ NB319_363.out _; (with_reducible repeat (first | refine blk_drewN ?_ _ | refine blk_drew ?_ | refine blk_alloc ?_ _)); refine blk_far ?_ NB319_363.out _; (with_reducible repeat (first | refine blk_drewN ?_ _ | refine blk_drew ?_ | refine blk_alloc ?_ _)); exact BK319.out⟩
                 have n3_ : Aside0 (((w197.setCell ⟨gb363, 0, none⟩ (.int .u64 t361)).setCell ⟨gb363, 1, none⟩ (.int .u64 t362)).heap[gb323]? = some (.cells #[.int .u64 t320, .int .u64 t321] 25 (0, 0))) := ⟨by (with_reducible repeat (first | refine blk_drewN ?_ _ | refine blk_drew ?_ | refine blk_alloc ?_ _)); refine blk_far ?_ NB323_363.out _; (with_reducible repeat (first | refine blk_drewN ?_ _ | refine blk_drew ?_ | refine blk_alloc ?_ _)); refine blk_far ?_ NB323_363.out _; (with_reducible repeat (first | refine blk_drewN ?_ _ | refine blk_drew ?_ | refine blk_alloc ?_ _)); exact BK323.out⟩
                 have n4_ : Aside0 (((w197.setCell ⟨gb363, 0, none⟩ (.int .u64 t361)).setCell ⟨gb363, 1, none⟩ (.int .u64 t362)).heap[gb329]? = some (.cells #[.int .u64 t325, .int .u64 t326] 25 (0, 0))) := ⟨by (with_reducible repeat (first | refine blk_drewN ?_ _ | refine blk_drew ?_ | refine blk_alloc ?_ _)); refine blk_far ?_ NB329_363.out _; (with_reducible repeat (first | refine blk_drewN ?_ _ | refine blk_drew ?_ | refine blk_alloc ?_ _)); refine blk_far ?_ NB329_363.out _; (with_reducible repeat (first | refine blk_drewN ?_ _ | refine blk_drew ?_ | refine blk_alloc ?_ _)); exact BK329.out⟩
                 have n5_ : Aside0 (((w197.setCell ⟨gb363, 0, none⟩ (.int .u64 t361)).setCell ⟨gb363, 1, none⟩ (.int .u64 t362)).heap[gb333]? = some (.cells #[.int .u64 t330, .int .u64 t331] 25 (0, 0))) := ⟨by (with_reducible repeat (first | refine blk_drewN ?_ _ | refine blk_drew ?_ | refine blk_alloc ?_ _)); refine blk_far ?_ NB333_363.out _; (with_reducible repeat (first | refine blk_drewN ?_ _ | refine blk_drew ?_ | refine blk_alloc ?_ _)); refine blk_far ?_ NB333_363.out _; (with_reducible repeat (first | refine blk_drewN ?_ _ | refine blk_drew ?_ | refine blk_alloc ?_ _)); exact BK333.out⟩
                 have n6_ : Aside0 (((w197.setCell ⟨gb363, 0, none⟩ (.int .u64 t361)).setCell ⟨gb363, 1, none⟩ (.int .u64 t362)).heap[gb339]? = some (.cells #[.int .u64 t336, .int .u64 t337] 25 (0, 0))) := ⟨by (with_reducible repeat (first | refine blk_drewN ?_ _ | refine blk_drew ?_ | refine blk_alloc ?_ _)); refine blk_far ?_ NB339_363.out _; (with_reducible repeat (first | refine blk_drewN ?_ _ | refine blk_drew ?_ | refine blk_alloc ?_ _)); refine blk_far ?_ NB339_363.out _; (with_reducible repeat (first | refine blk_drewN ?_ _ | refine blk_drew ?_ | refine blk_alloc ?_ _)); exact BK339.out⟩
                 have n7_ : Aside0 (((w197.setCell ⟨gb363, 0, none⟩ (.int .u64 t361)).setCell ⟨gb363, 1, none⟩ (.int .u64 t362)).heap[gb363]? = some (.cells #[.int .u64 t361, .int .u64 t362] 25 (0, 0))) := ⟨by (with_reducible repeat (first | refine blk_drewN ?_ _ | refine blk_drew ?_ | refine blk_alloc ?_ _)); refine blk_put (cs := #[.int .u64 t361, .int .u64 0]) ?_ 1 _ rfl; (with_reducible repeat (first | refine blk_drewN ?_ _ | refine blk_drew ?_ | refine blk_alloc ?_ _)); refine blk_put (cs := #[.int .u64 0, .int .u64 0]) ?_ 0 _ rfl; (with_reducible repeat (first | refine blk_drewN ?_ _ | refine blk_drew ?_ | refine blk_alloc ?_ _)); exact BK363.out⟩
                 have n8_ : Aside0 (Below w.heap.size w ((w197.setCell ⟨gb363, 0, none⟩ (.int .u64 t361)).setCell ⟨gb363, 1, none⟩ (.int .u64 t362))) := ⟨bA⟩
                 (try clear BK313); (try clear BK314); (try clear BK319); (try clear BK323); (try clear BK329); (try clear BK333); (try clear BK339); (try clear BK363); (try clear HB)
                 generalize ((w197.setCell ⟨gb363, 0, none⟩ (.int .u64 t361)).setCell ⟨gb363, 1, none⟩ (.int .u64 t362)) = w206 at n0_ n1_ n2_ n3_ n4_ n5_ n6_ n7_ n8_ ⊢
                 have BK313 := n0_; have BK314 := n1_; have BK319 := n2_; have BK323 := n3_; have BK329 := n4_; have BK333 := n5_; have BK339 := n6_; have BK363 := n7_; have HB := n8_; clear n0_ n1_ n2_ n3_ n4_ n5_ n6_ n7_ n8_; have n0_ := Aside0.mk (blk_drew BK313.out); have n1_ := Aside0.mk (blk_drew BK314.out); have n2_ := Aside0.mk (blk_drew BK319.out); have n3_ := Aside0.mk (blk_drew BK323.out); have n4_ := Aside0.mk (blk_drew BK329.out); have n5_ := Aside0.mk (blk_drew BK333.out); have n6_ := Aside0.mk (blk_drew BK339.out); have n7_ := Aside0.mk (blk_drew BK363.out); have n8_ := Aside0.mk (below_drew1 HB.out); clear BK313 BK314 BK319 BK323 BK329 BK333 BK339 BK363 HB; have BK313 := n0_; have BK314 := n1_; have BK319 := n2_; have BK323 := n3_; have BK329 := n4_; have BK333 := n5_; have BK339 := n6_; have BK363 := n7_; have HB := n8_; clear n0_ n1_ n2_ n3_ n4_ n5_ n6_ n7_ n8_
                 refine start_ (n := 20) (S := fun w' => w'.cell? ⟨gb313, 0, none⟩ = some (.int .u64 a0_0) ∧ w'.cell? ⟨gb313, 1, none⟩ = some (.int .u64 a0_1)) (ds := []) #[false, false, false, false, false, false, false, false, false, false, false, false, false, false, false, false, false, false, false, false] (by kernel_rfl) rfl rfl ⟨(blk_cell BK313.out 0).trans rfl, (blk_cell BK313.out 1).trans rfl⟩ (fun hHeld => ?_); refine with_tabW backfilllaw01_WideBack.tab20 backfilllaw01_WideBack.bits20 (fun HT_ HW_ => ?_)
                 generalize w206.drew = w207 at BK313 BK314 BK319 BK323 BK329 BK333 BK339 BK363 HB hHeld ⊢
                 refine pure_ (i := 0) (N := some 147) (v := ?_) (a' := ?_) #[true, false, false, false, false, false, false, false, false, false, false, false, false, false, false, false, false, false, false, false] rfl rfl (any_of HT_.out (by kernel_rfl)) (fun _ _ _ h => h) (Or.inl ⟨by rfl, ?_⟩) ?_ ?_
                 rotate_left
                 ·intro w'
                  go_simp; with_reducible rfl
                 rotate_left
                 ·simp only [Act.put, List.setIfInBounds_toArray, List.set_cons_zero, List.set_cons_succ, i64_w, i32_w]
                  rfl
                 refine pure_ (i := 1) (N := some 148) (v := ?_) (a' := ?_) #[true, true, false, false, false, false, false, false, false, false, false, false, false, false, false, false, false, false, false, false] rfl rfl (any_of HT_.out (by kernel_rfl)) (fun _ _ _ h => h) (Or.inl ⟨by rfl, ?_⟩) ?_ ?_
                 rotate_left
                 ·intro w'
                  go_simp; with_reducible rfl
                 rotate_left
                 ·simp only [Act.put, List.setIfInBounds_toArray, List.set_cons_zero, List.set_cons_succ, i64_w, i32_w]
                  rfl
                 refine pure_ (i := 2) (N := some 149) (v := ?_) (a' := ?_) #[true, true, true, false, false, false, false, false, false, false, false, false, false, false, false, false, false, false, false, false] rfl rfl (any_of HT_.out (by kernel_rfl)) (fun _ _ _ h => h) (Or.inl ⟨by rfl, ?_⟩) ?_ ?_
                 rotate_left
                 ·intro w'
                  go_simp; with_reducible rfl
                 rotate_left
                 ·simp only [Act.put, List.setIfInBounds_toArray, List.set_cons_zero, List.set_cons_succ, i64_w, i32_w]
                  rfl
                 refine pure_ (i := 3) (N := some 150) (v := ?_) (a' := ?_) #[true, true, true, true, false, false, false, false, false, false, false, false, false, false, false, false, false, false, false, false] rfl rfl (any_of HT_.out (by kernel_rfl)) (fun _ _ _ h => h) (Or.inl ⟨by rfl, ?_⟩) ?_ ?_
                 rotate_left
                 ·intro w'
                  go_simp; with_reducible rfl
                 rotate_left
                 ·simp only [Act.put, List.setIfInBounds_toArray, List.set_cons_zero, List.set_cons_succ, i64_w, i32_w]
                  rfl
                 refine take_ (i := 5) (N := some 152) (v := ?_) (a' := ?_) #[true, true, true, true, false, true, false, false, false, false, false, false, false, false, false, false, false, false, false, false] rfl rfl (take_ofW HT_.out HW_.out (by kernel_rfl)) (fun _ _ _ h => h) (Or.inl ⟨by rfl, ?_⟩) hHeld ?_ ?_
                 rotate_left
                 ·rintro w' ⟨s0, s1⟩
                  go_simp; with_reducible rfl
                 rotate_left
                 ·simp only [Act.put, List.setIfInBounds_toArray, List.set_cons_zero, List.set_cons_succ, i64_w, i32_w]
                  rfl
                 refine one_ (i := 4) (N := some 151) #[true, true, true, true, true, true, false, false, false, false, false, false, false, false, false, false, false, false, false, false] rfl rfl (one_of HT_.out (by kernel_rfl)) (by decide) (fun K hK => ?_)
                 refine goes_ Try.func47 (by kernel_rfl) rfl #[.int .u64 t360, .int .u64 t360] (by rfl) rfl rfl aA ?_
                 with_reducible refine (wide_Mul.calls t360 t360 t364 t365 _ A184.out).mono ?_
                 rintro e w208 ⟨rfl, hb⟩
                 refine ⟨_, rfl, ?_⟩; have n0_ := Aside0.mk (blk_below (g := gb313) (o := .cells #[.int .u64 a0_0, .int .u64 a0_1] 25 (0, 0)) kA hb); have n1_ := Aside0.mk (blk_below (g := gb314) (o := .cells #[.int .u64 a1_0, .int .u64 a1_1] 25 (0, 0)) kA hb); have n2_ := Aside0.mk (blk_below (g := gb319) (o := .cells #[.int .u64 t316, .int .u64 t317] 25 (0, 0)) kA hb); have n3_ := Aside0.mk (blk_below (g := gb323) (o := .cells #[.int .u64 t320, .int .u64 t321] 25 (0, 0)) kA hb); have n4_ := Aside0.mk (blk_below (g := gb329) (o := .cells #[.int .u64 t325, .int .u64 t326] 25 (0, 0)) kA hb); have n5_ := Aside0.mk (blk_below (g := gb333) (o := .cells #[.int .u64 t330, .int .u64 t331] 25 (0, 0)) kA hb); have n6_ := Aside0.mk (blk_below (g := gb339) (o := .cells #[.int .u64 t336, .int .u64 t337] 25 (0, 0)) kA hb); have n7_ := Aside0.mk (blk_below (g := gb363) (o := .cells #[.int .u64 t361, .int .u64 t362] 25 (0, 0)) kA hb); have n8_ := Aside0.mk (below_step bA hb); clear BK313 BK314 BK319 BK323 BK329 BK333 BK339 BK363 HB; have BK313 := n0_; have BK314 := n1_; have BK319 := n2_; have BK323 := n3_; have BK329 := n4_; have BK333 := n5_; have BK339 := n6_; have BK363 := n7_; have HB := n8_; clear n0_ n1_ n2_ n3_ n4_ n5_ n6_ n7_ n8_; (try clear hb)
                 refine hK.out _ _ ⟨(blk_cell BK313.out 0).trans rfl, (blk_cell BK313.out 1).trans rfl⟩ (fun hHeld => ?_)
                 clear hK K
                 refine norm_ (a' := ?_) ?_ ?_
                 rotate_left
                 ·show Act.put _ (some 151) _ = _
                  simp only [Act.put, List.setIfInBounds_toArray, List.set_cons_zero, List.set_cons_succ, i64_w, i32_w]
                  rfl
                 refine one_ (i := 6) (N := some 153) #[true, true, true, true, true, true, true, false, false, false, false, false, false, false, false, false, false, false, false, false] rfl rfl (one_of HT_.out (by kernel_rfl)) (by decide) (fun K hK => ?_)
                 refine goes_ Try.func45 (by kernel_rfl) rfl #[.agg #[.int .u64 t364, .int .u64 t365], .agg #[.int .u64 a0_0, .int .u64 a0_1]] (by rfl) rfl rfl aA ?_
                 with_reducible refine (wide_Cmp.calls t364 t365 a0_0 a0_1 t366 _ A185.out).mono ?_
                 rintro e w209 ⟨rfl, hb⟩
                 refine ⟨_, rfl, ?_⟩; have n0_ := Aside0.mk (blk_below (g := gb313) (o := .cells #[.int .u64 a0_0, .int .u64 a0_1] 25 (0, 0)) kA hb); have n1_ := Aside0.mk (blk_below (g := gb314) (o := .cells #[.int .u64 a1_0, .int .u64 a1_1] 25 (0, 0)) kA hb); have n2_ := Aside0.mk (blk_below (g := gb319) (o := .cells #[.int .u64 t316, .int .u64 t317] 25 (0, 0)) kA hb); have n3_ := Aside0.mk (blk_below (g := gb323) (o := .cells #[.int .u64 t320, .int .u64 t321] 25 (0, 0)) kA hb); have n4_ := Aside0.mk (blk_below (g := gb329) (o := .cells #[.int .u64 t325, .int .u64 t326] 25 (0, 0)) kA hb); have n5_ := Aside0.mk (blk_below (g := gb333) (o := .cells #[.int .u64 t330, .int .u64 t331] 25 (0, 0)) kA hb); have n6_ := Aside0.mk (blk_below (g := gb339) (o := .cells #[.int .u64 t336, .int .u64 t337] 25 (0, 0)) kA hb); have n7_ := Aside0.mk (blk_below (g := gb363) (o := .cells #[.int .u64 t361, .int .u64 t362] 25 (0, 0)) kA hb); have n8_ := Aside0.mk (below_step bA hb); clear BK313 BK314 BK319 BK323 BK329 BK333 BK339 BK363 HB; have BK313 := n0_; have BK314 := n1_; have BK319 := n2_; have BK323 := n3_; have BK329 := n4_; have BK333 := n5_; have BK339 := n6_; have BK363 := n7_; have HB := n8_; clear n0_ n1_ n2_ n3_ n4_ n5_ n6_ n7_ n8_; (try clear hb)
                 refine hK.out _ _ ⟨(blk_cell BK313.out 0).trans rfl, (blk_cell BK313.out 1).trans rfl⟩ (fun hHeld => ?_)
                 clear hK K
                 refine norm_ (a' := ?_) ?_ ?_
                 rotate_left
                 ·show Act.put _ (some 153) _ = _
                  simp only [Act.put, List.setIfInBounds_toArray, List.set_cons_zero, List.set_cons_succ, i64_w, i32_w]
                  rfl
                 refine pure_ (i := 7) (N := some 154) (v := ?_) (a' := ?_) #[true, true, true, true, true, true, true, true, false, false, false, false, false, false, false, false, false, false, false, false] rfl rfl (any_of HT_.out (by kernel_rfl)) (fun _ _ _ h => h) (Or.inl ⟨by rfl, ?_⟩) ?_ ?_
                 rotate_left
                 ·intro w'
                  go_simp; with_reducible rfl
                 rotate_left
                 ·simp only [Act.put, List.setIfInBounds_toArray, List.set_cons_zero, List.set_cons_succ, i64_w, i32_w]
                  rfl
                 refine pure_ (i := 8) (N := some 155) (v := ?_) (a' := ?_) #[true, true, true, true, true, true, true, true, true, false, false, false, false, false, false, false, false, false, false, false] rfl rfl (any_of HT_.out (by kernel_rfl)) (fun _ _ _ h => h) (Or.inl ⟨by rfl, ?_⟩) ?_ ?_
                 rotate_left
                 ·intro w'
                  go_simp; with_reducible rfl
                 rotate_left
                 ·simp only [Act.put, List.setIfInBounds_toArray, List.set_cons_zero, List.set_cons_succ, i64_w, i32_w]
                  rfl
                 refine pure_ (i := 9) (N := some 156) (v := ?_) (a' := ?_) #[true, true, true, true, true, true, true, true, true, true, false, false, false, false, false, false, false, false, false, false] rfl rfl (any_of HT_.out (by kernel_rfl)) (fun _ _ _ h => h) (Or.inl ⟨by rfl, ?_⟩) ?_ ?_
                 rotate_left
                 ·intro w'
                  go_simp; with_reducible rfl
                 rotate_left
                 ·simp only [Act.put, List.setIfInBounds_toArray, List.set_cons_zero, List.set_cons_succ, i64_w, i32_w]
                  rfl
                 refine pure_ (i := 10) (N := some 157) (v := ?_) (a' := ?_) #[true, true, true, true, true, true, true, true, true, true, true, false, false, false, false, false, false, false, false, false] rfl rfl (any_of HT_.out (by kernel_rfl)) (fun _ _ _ h => h) (Or.inl ⟨by rfl, ?_⟩) ?_ ?_
                 rotate_left
                 ·intro w'
                  go_simp; with_reducible rfl
                 rotate_left
                 ·simp only [Act.put, List.setIfInBounds_toArray, List.set_cons_zero, List.set_cons_succ, i64_w, i32_w]
                  rfl
                 refine pure_ (i := 11) (N := some 158) (v := ?_) (a' := ?_) #[true, true, true, true, true, true, true, true, true, true, true, true, false, false, false, false, false, false, false, false] rfl rfl (any_of HT_.out (by kernel_rfl)) (fun _ _ _ h => h) (Or.inl ⟨by rfl, ?_⟩) ?_ ?_
                 rotate_left
                 ·intro w'
                  go_simp; with_reducible rfl
                 rotate_left
                 ·simp only [Act.put, List.setIfInBounds_toArray, List.set_cons_zero, List.set_cons_succ, i64_w, i32_w]
                  rfl
                 refine pure_ (i := 12) (N := some 159) (v := ?_) (a' := ?_) #[true, true, true, true, true, true, true, true, true, true, true, true, true, false, false, false, false, false, false, false] rfl rfl (any_of HT_.out (by kernel_rfl)) (fun _ _ _ h => h) (Or.inl ⟨by rfl, ?_⟩) ?_ ?_
                 rotate_left
                 ·intro w'
                  go_simp; with_reducible rfl
                 rotate_left
                 ·simp only [Act.put, List.setIfInBounds_toArray, List.set_cons_zero, List.set_cons_succ, i64_w, i32_w]
                  rfl
                 refine pure_ (i := 13) (N := some 160) (v := undef) (a' := ?_) #[true, true, true, true, true, true, true, true, true, true, true, true, true, true, false, false, false, false, false, false] rfl rfl (any_of HT_.out (by kernel_rfl)) (fun _ _ _ h => h) (Or.inr ⟨by rfl, rfl⟩) ?_ ?_
                 rotate_left
                 ·simp only [Act.put, List.setIfInBounds_toArray, List.set_cons_zero, List.set_cons_succ, i64_w, i32_w]
                  rfl
                 refine pure_ (i := 14) (N := some 161) (v := undef) (a' := ?_) #[true, true, true, true, true, true, true, true, true, true, true, true, true, true, true, false, false, false, false, false] rfl rfl (any_of HT_.out (by kernel_rfl)) (fun _ _ _ h => h) (Or.inr ⟨by rfl, rfl⟩) ?_ ?_
                 rotate_left
                 ·simp only [Act.put, List.setIfInBounds_toArray, List.set_cons_zero, List.set_cons_succ, i64_w, i32_w]
                  rfl
                 refine pure_ (i := 15) (N := some 162) (v := undef) (a' := ?_) #[true, true, true, true, true, true, true, true, true, true, true, true, true, true, true, true, false, false, false, false] rfl rfl (any_of HT_.out (by kernel_rfl)) (fun _ _ _ h => h) (Or.inr ⟨by rfl, rfl⟩) ?_ ?_
                 rotate_left
                 ·simp only [Act.put, List.setIfInBounds_toArray, List.set_cons_zero, List.set_cons_succ, i64_w, i32_w]
                  rfl
                 refine pure_ (i := 16) (N := some 163) (v := undef) (a' := ?_) #[true, true, true, true, true, true, true, true, true, true, true, true, true, true, true, true, true, false, false, false] rfl rfl (any_of HT_.out (by kernel_rfl)) (fun _ _ _ h => h) (Or.inr ⟨by rfl, rfl⟩) ?_ ?_
                 rotate_left
                 ·simp only [Act.put, List.setIfInBounds_toArray, List.set_cons_zero, List.set_cons_succ, i64_w, i32_w]
                  rfl
                 refine pure_ (i := 17) (N := some 164) (v := ?_) (a' := ?_) #[true, true, true, true, true, true, true, true, true, true, true, true, true, true, true, true, true, true, false, false] rfl rfl (any_of HT_.out (by kernel_rfl)) (fun _ _ _ h => h) (Or.inl ⟨by rfl, ?_⟩) ?_ ?_
                 rotate_left
                 ·intro w'
                  go_simp; with_reducible rfl
                 rotate_left
                 ·simp only [Act.put, List.setIfInBounds_toArray, List.set_cons_zero, List.set_cons_succ, i64_w, i32_w]
                  rfl
                 refine pure_ (i := 18) (N := some 165) (v := ?_) (a' := ?_) #[true, true, true, true, true, true, true, true, true, true, true, true, true, true, true, true, true, true, true, false] rfl rfl (any_of HT_.out (by kernel_rfl)) (fun _ _ _ h => h) (Or.inl ⟨by rfl, ?_⟩) ?_ ?_
                 rotate_left
                 ·intro w'
                  go_simp; with_reducible rfl
                 rotate_left
                 ·simp only [Act.put, List.setIfInBounds_toArray, List.set_cons_zero, List.set_cons_succ, i64_w, i32_w]
                  rfl
                 refine pure_ (i := 19) (N := some 6) (v := ?_) (a' := ?_) #[true, true, true, true, true, true, true, true, true, true, true, true, true, true, true, true, true, true, true, true] rfl rfl (any_of HT_.out (by kernel_rfl)) (fun _ _ _ h => h) (Or.inl ⟨by rfl, ?_⟩) ?_ ?_
                 rotate_left
                 ·intro w'
                  go_simp; with_reducible rfl
                 rotate_left
                 ·simp only [Act.put, List.setIfInBounds_toArray, List.set_cons_zero, List.set_cons_succ, i64_w, i32_w]
                  rfl
                 refine done_ (done_of HT_.out (by kernel_rfl)) ?_
                 try go_wp2
                 go_ret
                 exact ⟨by first | rfl | (simp [errW_none, errW_some] <;> rfl) | (simp [*, errW_none, errW_some] <;> rfl), bA⟩
                ·rw [if_neg c187] at H
                 have c187b0 : (t360 == 18446744073709551615) = false := beq_eq_false_iff_ne.mpr c187
                 have c187b1 : (t360 != 18446744073709551615) = true := bne_iff_ne.mpr c187
                 replace H := Option.bind_eq_some_iff.mp H; obtain ⟨t367, A2100, H⟩ := H; replace H : (some (decide (t367 > 0))) = some r := H; have A210 := Aside0.mk A2100; clear A2100
                 obtain rfl := Option.some.inj H
                 have hnb211 := NB313_314.out
                 have hnc211 := NB314_313.out
                 have hnb212 := NB313_319.out
                 have hnc212 := NB319_313.out
                 have hnb213 := NB313_323.out
                 have hnc213 := NB323_313.out
                 have hnb214 := NB313_329.out
                 have hnc214 := NB329_313.out
                 have hnb215 := NB313_333.out
                 have hnc215 := NB333_313.out
                 have hnb216 := NB313_339.out
                 have hnc216 := NB339_313.out
                 have hcz217_0 : wc.cell? ⟨gb313, 0, none⟩ = some (.int .u64 a0_0) := (blk_cell BK313.out 0).trans rfl
                 have hcz217_1 : wc.cell? ⟨gb313, 1, none⟩ = some (.int .u64 a0_1) := (blk_cell BK313.out 1).trans rfl
                 have hfz217_0 := blk_frozen BK313.out 0
                 have hfz217_1 := blk_frozen BK313.out 1
                 try go_wp2_with (first | ((with_reducible refine gate_callee (f := 22) rfl ?_); refine goesL_ (some 141) rfl rfl Try.func22 (by kernel_rfl) rfl #[.agg #[.int .u64 a0_0, .int .u64 a0_1]] rfl aA ?_; (with_reducible refine (wide_Sqrt.calls kj128 a0_0 a0_1 t360 _ A181.out).mono ?_); rintro e w218 ⟨rfl, hb⟩; refine ⟨_, rfl, ?_⟩; have n0_ := Aside0.mk (blk_below (g := gb313) (o := .cells #[.int .u64 a0_0, .int .u64 a0_1] 25 (0, 0)) kA hb); have n1_ := Aside0.mk (blk_below (g := gb314) (o := .cells #[.int .u64 a1_0, .int .u64 a1_1] 25 (0, 0)) kA hb); have n2_ := Aside0.mk (blk_below (g := gb319) (o := .cells #[.int .u64 t316, .int .u64 t317] 25 (0, 0)) kA hb); have n3_ := Aside0.mk (blk_below (g := gb323) (o := .cells #[.int .u64 t320, .int .u64 t321] 25 (0, 0)) kA hb); have n4_ := Aside0.mk (blk_below (g := gb329) (o := .cells #[.int .u64 t325, .int .u64 t326] 25 (0, 0)) kA hb); have n5_ := Aside0.mk (blk_below (g := gb333) (o := .cells #[.int .u64 t330, .int .u64 t331] 25 (0, 0)) kA hb); have n6_ := Aside0.mk (blk_below (g := gb339) (o := .cells #[.int .u64 t336, .int .u64 t337] 25 (0, 0)) kA hb); have n7_ := Aside0.mk (below_step bA hb); clear BK313 BK314 BK319 BK323 BK329 BK333 BK339 HB; have BK313 := n0_; have BK314 := n1_; have BK319 := n2_; have BK323 := n3_; have BK329 := n4_; have BK333 := n5_; have BK339 := n6_; have HB := n7_; clear n0_ n1_ n2_ n3_ n4_ n5_ n6_ n7_; (try clear hb)) | ((with_reducible refine gate_callee (f := 47) rfl ?_); refine goesL_ (some 146) rfl rfl Try.func47 (by kernel_rfl) rfl #[.int .u64 (IntKind.u64.wrap (t360 + 1)), .int .u64 (IntKind.u64.wrap (t360 + 1))] rfl aA ?_; (with_reducible refine (wide_Mul.calls (IntKind.u64.wrap (t360 + 1)) (IntKind.u64.wrap (t360 + 1)) t361 t362 _ A182.out).mono ?_); rintro e w219 ⟨rfl, hb⟩; refine ⟨_, rfl, ?_⟩; have n0_ := Aside0.mk (blk_below (g := gb313) (o := .cells #[.int .u64 a0_0, .int .u64 a0_1] 25 (0, 0)) kA hb); have n1_ := Aside0.mk (blk_below (g := gb314) (o := .cells #[.int .u64 a1_0, .int .u64 a1_1] 25 (0, 0)) kA hb); have n2_ := Aside0.mk (blk_below (g := gb319) (o := .cells #[.int .u64 t316, .int .u64 t317] 25 (0, 0)) kA hb); have n3_ := Aside0.mk (blk_below (g := gb323) (o := .cells #[.int .u64 t320, .int .u64 t321] 25 (0, 0)) kA hb); have n4_ := Aside0.mk (blk_below (g := gb329) (o := .cells #[.int .u64 t325, .int .u64 t326] 25 (0, 0)) kA hb); have n5_ := Aside0.mk (blk_below (g := gb333) (o := .cells #[.int .u64 t330, .int .u64 t331] 25 (0, 0)) kA hb); have n6_ := Aside0.mk (blk_below (g := gb339) (o := .cells #[.int .u64 t336, .int .u64 t337] 25 (0, 0)) kA hb); have n7_ := Aside0.mk (below_step bA hb); clear BK313 BK314 BK319 BK323 BK329 BK333 BK339 HB; have BK313 := n0_; have BK314 := n1_; have BK319 := n2_; have BK323 := n3_; have BK329 := n4_; have BK333 := n5_; have BK339 := n6_; have HB := n7_; clear n0_ n1_ n2_ n3_ n4_ n5_ n6_ n7_; (try clear hb)) | ((with_reducible refine gate_dst (N := 23) rfl ?_); refine bxA 23 #[.int .u64 0, .int .u64 0] 25 ?_; intro gb363 hg w220 hbox hb; have n0_ := Aside0.mk (blk_below (g := gb313) (o := .cells #[.int .u64 a0_0, .int .u64 a0_1] 25 (0, 0)) kA hb); have n1_ := Aside0.mk (blk_below (g := gb314) (o := .cells #[.int .u64 a1_0, .int .u64 a1_1] 25 (0, 0)) kA hb); have n2_ := Aside0.mk (blk_below (g := gb319) (o := .cells #[.int .u64 t316, .int .u64 t317] 25 (0, 0)) kA hb); have n3_ := Aside0.mk (blk_below (g := gb323) (o := .cells #[.int .u64 t320, .int .u64 t321] 25 (0, 0)) kA hb); have n4_ := Aside0.mk (blk_below (g := gb329) (o := .cells #[.int .u64 t325, .int .u64 t326] 25 (0, 0)) kA hb); have n5_ := Aside0.mk (blk_below (g := gb333) (o := .cells #[.int .u64 t330, .int .u64 t331] 25 (0, 0)) kA hb); have n6_ := Aside0.mk (blk_below (g := gb339) (o := .cells #[.int .u64 t336, .int .u64 t337] 25 (0, 0)) kA hb); have n7_ := Aside0.mk (below_step bA hb); have n8_ := Aside0.mk (hbox); have n9_ := Aside0.mk ((by rw [hg]; exact (below_size bA) : w.heap.size ≤ gb363)); have n10_ := Aside0.mk ((by rw [hg]; exact (below_size bA) : w.heap.size ≤ gb363)); have n11_ := Aside0.mk ((by rw [hg]; exact Nat.ne_of_lt (blk_lt (g := gb313) (o := .cells #[.int .u64 a0_0, .int .u64 a0_1] 25 (0, 0)) kA) : gb313 ≠ gb363)); have n12_ := Aside0.mk ((by rw [hg]; exact Nat.ne_of_gt (blk_lt (g := gb313) (o := .cells #[.int .u64 a0_0, .int .u64 a0_1] 25 (0, 0)) kA) : gb363 ≠ gb313)); have n13_ := Aside0.mk ((by rw [hg]; exact Nat.ne_of_lt (blk_lt (g := gb314) (o := .cells #[.int .u64 a1_0, .int .u64 a1_1] 25 (0, 0)) kA) : gb314 ≠ gb363)); have n14_ := Aside0.mk ((by rw [hg]; exact Nat.ne_of_gt (blk_lt (g := gb314) (o := .cells #[.int .u64 a1_0, .int .u64 a1_1] 25 (0, 0)) kA) : gb363 ≠ gb314)); have n15_ := Aside0.mk ((by rw [hg]; exact Nat.ne_of_lt (blk_lt (g := gb319) (o := .cells #[.int .u64 t316, .int .u64 t317] 25 (0, 0)) kA) : gb319 ≠ gb363)); have n16_ := Aside0.mk ((by rw [hg]; exact Nat.ne_of_gt (blk_lt (g := gb319) (o := .cells #[.int .u64 t316, .int .u64 t317] 25 (0, 0)) kA) : gb363 ≠ gb319)); have n17_ := Aside0.mk ((by rw [hg]; exact Nat.ne_of_lt (blk_lt (g := gb323) (o := .cells #[.int .u64 t320, .int .u64 t321] 25 (0, 0)) kA) : gb323 ≠ gb363)); have n18_ := Aside0.mk ((by rw [hg]; exact Nat.ne_of_gt (blk_lt (g := gb323) (o := .cells #[.int .u64 t320, .int .u64 t321] 25 (0, 0)) kA) : gb363 ≠ gb323)); have n19_ := Aside0.mk ((by rw [hg]; exact Nat.ne_of_lt (blk_lt (g := gb329) (o := .cells #[.int .u64 t325, .int .u64 t326] 25 (0, 0)) kA) : gb329 ≠ gb363)); have n20_ := Aside0.mk ((by rw [hg]; exact Nat.ne_of_gt (blk_lt (g := gb329) (o := .cells #[.int .u64 t325, .int .u64 t326] 25 (0, 0)) kA) : gb363 ≠ gb329)); have n21_ := Aside0.mk ((by rw [hg]; exact Nat.ne_of_lt (blk_lt (g := gb333) (o := .cells #[.int .u64 t330, .int .u64 t331] 25 (0, 0)) kA) : gb333 ≠ gb363)); have n22_ := Aside0.mk ((by rw [hg]; exact Nat.ne_of_gt (blk_lt (g := gb333) (o := .cells #[.int .u64 t330, .int .u64 t331] 25 (0, 0)) kA) : gb363 ≠ gb333)); have n23_ := Aside0.mk ((by rw [hg]; exact Nat.ne_of_lt (blk_lt (g := gb339) (o := .cells #[.int .u64 t336, .int .u64 t337] 25 (0, 0)) kA) : gb339 ≠ gb363)); have n24_ := Aside0.mk ((by rw [hg]; exact Nat.ne_of_gt (blk_lt (g := gb339) (o := .cells #[.int .u64 t336, .int .u64 t337] 25 (0, 0)) kA) : gb363 ≠ gb339)); clear BK313 BK314 BK319 BK323 BK329 BK333 BK339 HB; have BK313 := n0_; have BK314 := n1_; have BK319 := n2_; have BK323 := n3_; have BK329 := n4_; have BK333 := n5_; have BK339 := n6_; have HB := n7_; have BK363 := n8_; have GW363 := n9_; have GE363 := n10_; have NB313_363 := n11_; have NB363_313 := n12_; have NB314_363 := n13_; have NB363_314 := n14_; have NB319_363 := n15_; have NB363_319 := n16_; have NB323_363 := n17_; have NB363_323 := n18_; have NB329_363 := n19_; have NB363_329 := n20_; have NB333_363 := n21_; have NB363_333 := n22_; have NB339_363 := n23_; have NB363_339 := n24_; clear n0_ n1_ n2_ n3_ n4_ n5_ n6_ n7_ n8_ n9_ n10_ n11_ n12_ n13_ n14_ n15_ n16_ n17_ n18_ n19_ n20_ n21_ n22_ n23_ n24_ hb hbox hg; have hnb221 := NB363_313.out; have hnc221 := NB313_363.out; have hnb222 := NB363_314.out; have hnc222 := NB314_363.out; have hnb223 := NB363_319.out; have hnc223 := NB319_363.out; have hnb224 := NB363_323.out; have hnc224 := NB323_363.out; have hnb225 := NB363_329.out; have hnc225 := NB329_363.out; have hnb226 := NB363_333.out; have hnc226 := NB333_363.out; have hnb227 := NB363_339.out; have hnc227 := NB339_363.out; have hcz228_0 : w220.cell? ⟨gb363, 0, none⟩ = some (.int .u64 0) := (blk_cell BK363.out 0).trans rfl; have hcz228_1 : w220.cell? ⟨gb363, 1, none⟩ = some (.int .u64 0) := (blk_cell BK363.out 1).trans rfl; have hfz228_0 := blk_frozen BK363.out 0; have hfz228_1 := blk_frozen BK363.out 1))
                 have n0_ : Aside0 (((w220.setCell ⟨gb363, 0, none⟩ (.int .u64 t361)).setCell ⟨gb363, 1, none⟩ (.int .u64 t362)).heap[gb313]? = some (.cells #[.int .u64 a0_0, .int .u64 a0_1] 25 (0, 0))) := ⟨by (with_reducible repeat (first | refine blk_drewN ?_ _ | refine blk_drew ?_ | refine blk_alloc ?_ _)); refine blk_far ?_ NB313_363.out _; (with_reducible repeat (first | refine blk_drewN ?_ _ | refine blk_drew ?_ | refine blk_alloc ?_ _)); refine blk_far ?_ NB313_363.out _; (with_reducible repeat (first | refine blk_drewN ?_ _ | refine blk_drew ?_ | refine blk_alloc ?_ _)); exact BK313.out⟩
                 have n1_ : Aside0 (((w220.setCell ⟨gb363, 0, none⟩ (.int .u64 t361)).setCell ⟨gb363, 1, none⟩ (.int .u64 t362)).heap[gb314]? = some (.cells #[.int .u64 a1_0, .int .u64 a1_1] 25 (0, 0))) := ⟨by (with_reducible repeat (first | refine blk_drewN ?_ _ | refine blk_drew ?_ | refine blk_alloc ?_ _)); refine blk_far ?_ NB314_363.out _; (with_reducible repeat (first | refine blk_drewN ?_ _ | refine blk_drew ?_ | refine blk_alloc ?_ _)); refine blk_far ?_ NB314_363.out _; (with_reducible repeat (first | refine blk_drewN ?_ _ | refine blk_drew ?_ | refine blk_alloc ?_ _)); exact BK314.out⟩
                 have n2_ : Aside0 (((w220.setCell ⟨gb363, 0, none⟩ (.int .u64 t361)).setCell ⟨gb363, 1, none⟩ (.int .u64 t362)).heap[gb319]? = some (.cells #[.int .u64 t316, .int .u64 t317] 25 (0, 0))) := ⟨by (with_reducible repeat (first | refine blk_drewN ?_ _ | refine blk_drew ?_ | refine blk_alloc ?_ _)); refine blk_far ?_ NB319_363.out _; (with_reducible repeat (first | refine blk_drewN ?_ _ | refine blk_drew ?_ | refine blk_alloc ?_ _)); refine blk_far ?_ NB319_363.out _; (with_reducible repeat (first | refine blk_drewN ?_ _ | refine blk_drew ?_ | refine blk_alloc ?_ _)); exact BK319.out⟩
                 have n3_ : Aside0 (((w220.setCell ⟨gb363, 0, none⟩ (.int .u64 t361)).setCell ⟨gb363, 1, none⟩ (.int .u64 t362)).heap[gb323]? = some (.cells #[.int .u64 t320, .int .u64 t321] 25 (0, 0))) := ⟨by (with_reducible repeat (first | refine blk_drewN ?_ _ | refine blk_drew ?_ | refine blk_alloc ?_ _)); refine blk_far ?_ NB323_363.out _; (with_reducible repeat (first | refine blk_drewN ?_ _ | refine blk_drew ?_ | refine blk_alloc ?_ _)); refine blk_far ?_ NB323_363.out _; (with_reducible repeat (first | refine blk_drewN ?_ _ | refine blk_drew ?_ | refine blk_alloc ?_ _)); exact BK323.out⟩
                 have n4_ : Aside0 (((w220.setCell ⟨gb363, 0, none⟩ (.int .u64 t361)).setCell ⟨gb363, 1, none⟩ (.int .u64 t362)).heap[gb329]? = some (.cells #[.int .u64 t325, .int .u64 t326] 25 (0, 0))) := ⟨by (with_reducible repeat (first | refine blk_drewN ?_ _ | refine blk_drew ?_ | refine blk_alloc ?_ _)); refine blk_far ?_ NB329_363.out _; (with_reducible repeat (first | refine blk_drewN ?_ _ | refine blk_drew ?_ | refine blk_alloc ?_ _)); refine blk_far ?_ NB329_363.out _; (with_reducible repeat (first | refine blk_drewN ?_ _ | refine blk_drew ?_ | refine blk_alloc ?_ _)); exact BK329.out⟩
                 have n5_ : Aside0 (((w220.setCell ⟨gb363, 0, none⟩ (.int .u64 t361)).setCell ⟨gb363, 1, none⟩ (.int .u64 t362)).heap[gb333]? = some (.cells #[.int .u64 t330, .int .u64 t331] 25 (0, 0))) := ⟨by (with_reducible repeat (first | refine blk_drewN ?_ _ | refine blk_drew ?_ | refine blk_alloc ?_ _)); refine blk_far ?_ NB333_363.out _; (with_reducible repeat (first | refine blk_drewN ?_ _ | refine blk_drew ?_ | refine blk_alloc ?_ _)); refine blk_far ?_ NB333_363.out _; (with_reducible repeat (first | refine blk_drewN ?_ _ | refine blk_drew ?_ | refine blk_alloc ?_ _)); exact BK333.out⟩
                 have n6_ : Aside0 (((w220.setCell ⟨gb363, 0, none⟩ (.int .u64 t361)).setCell ⟨gb363, 1, none⟩ (.int .u64 t362)).heap[gb339]? = some (.cells #[.int .u64 t336, .int .u64 t337] 25 (0, 0))) := ⟨by (with_reducible repeat (first | refine blk_drewN ?_ _ | refine blk_drew ?_ | refine blk_alloc ?_ _)); refine blk_far ?_ NB339_363.out _; (with_reducible repeat (first | refine blk_drewN ?_ _ | refine blk_drew ?_ | refine blk_alloc ?_ _)); refine blk_far ?_ NB339_363.out _; (with_reducible repeat (first | refine blk_drewN ?_ _ | refine blk_drew ?_ | refine blk_alloc ?_ _)); exact BK339.out⟩
                 have n7_ : Aside0 (((w220.setCell ⟨gb363, 0, none⟩ (.int .u64 t361)).setCell ⟨gb363, 1, none⟩ (.int .u64 t362)).heap[gb363]? = some (.cells #[.int .u64 t361, .int .u64 t362] 25 (0, 0))) := ⟨by (with_reducible repeat (first | refine blk_drewN ?_ _ | refine blk_drew ?_ | refine blk_alloc ?_ _)); refine blk_put (cs := #[.int .u64 t361, .int .u64 0]) ?_ 1 _ rfl; (with_reducible repeat (first | refine blk_drewN ?_ _ | refine blk_drew ?_ | refine blk_alloc ?_ _)); refine blk_put (cs := #[.int .u64 0, .int .u64 0]) ?_ 0 _ rfl; (with_reducible repeat (first | refine blk_drewN ?_ _ | refine blk_drew ?_ | refine blk_alloc ?_ _)); exact BK363.out⟩
                 have n8_ : Aside0 (Below w.heap.size w ((w220.setCell ⟨gb363, 0, none⟩ (.int .u64 t361)).setCell ⟨gb363, 1, none⟩ (.int .u64 t362))) := ⟨bA⟩
                 (try clear BK313); (try clear BK314); (try clear BK319); (try clear BK323); (try clear BK329); (try clear BK333); (try clear BK339); (try clear BK363); (try clear HB)
                 generalize ((w220.setCell ⟨gb363, 0, none⟩ (.int .u64 t361)).setCell ⟨gb363, 1, none⟩ (.int .u64 t362)) = w229 at n0_ n1_ n2_ n3_ n4_ n5_ n6_ n7_ n8_ ⊢
                 have BK313 := n0_; have BK314 := n1_; have BK319 := n2_; have BK323 := n3_; have BK329 := n4_; have BK333 := n5_; have BK339 := n6_; have BK363 := n7_; have HB := n8_; clear n0_ n1_ n2_ n3_ n4_ n5_ n6_ n7_ n8_; have n0_ := Aside0.mk (blk_drew BK313.out); have n1_ := Aside0.mk (blk_drew BK314.out); have n2_ := Aside0.mk (blk_drew BK319.out); have n3_ := Aside0.mk (blk_drew BK323.out); have n4_ := Aside0.mk (blk_drew BK329.out); have n5_ := Aside0.mk (blk_drew BK333.out); have n6_ := Aside0.mk (blk_drew BK339.out); have n7_ := Aside0.mk (blk_drew BK363.out); have n8_ := Aside0.mk (below_drew1 HB.out); clear BK313 BK314 BK319 BK323 BK329 BK333 BK339 BK363 HB; have BK313 := n0_; have BK314 := n1_; have BK319 := n2_; have BK323 := n3_; have BK329 := n4_; have BK333 := n5_; have BK339 := n6_; have BK363 := n7_; have HB := n8_; clear n0_ n1_ n2_ n3_ n4_ n5_ n6_ n7_ n8_
                 refine start_ (n := 20) (S := fun w' => w'.cell? ⟨gb313, 0, none⟩ = some (.int .u64 a0_0) ∧ w'.cell? ⟨gb313, 1, none⟩ = some (.int .u64 a0_1) ∧ w'.cell? ⟨gb363, 0, none⟩ = some (.int .u64 t361) ∧ w'.cell? ⟨gb363, 1, none⟩ = some (.int .u64 t362)) (ds := []) #[false, false, false, false, false, false, false, false, false, false, false, false, false, false, false, false, false, false, false, false] (by kernel_rfl) rfl rfl ⟨(blk_cell BK313.out 0).trans rfl, (blk_cell BK313.out 1).trans rfl, (blk_cell BK363.out 0).trans rfl, (blk_cell BK363.out 1).trans rfl⟩ (fun hHeld => ?_); refine with_tabW backfilllaw01_WideBack.tab20 backfilllaw01_WideBack.bits20 (fun HT_ HW_ => ?_)
                 generalize w229.drew = w230 at BK313 BK314 BK319 BK323 BK329 BK333 BK339 BK363 HB hHeld ⊢
                 refine pure_ (i := 0) (N := some 147) (v := ?_) (a' := ?_) #[true, false, false, false, false, false, false, false, false, false, false, false, false, false, false, false, false, false, false, false] rfl rfl (any_of HT_.out (by kernel_rfl)) (fun _ _ _ h => h) (Or.inl ⟨by rfl, ?_⟩) ?_ ?_
                 rotate_left
                 ·intro w'
                  go_simp; with_reducible rfl
                 rotate_left
                 ·simp only [Act.put, List.setIfInBounds_toArray, List.set_cons_zero, List.set_cons_succ, i64_w, i32_w]
                  rfl
                 refine pure_ (i := 1) (N := some 148) (v := ?_) (a' := ?_) #[true, true, false, false, false, false, false, false, false, false, false, false, false, false, false, false, false, false, false, false] rfl rfl (any_of HT_.out (by kernel_rfl)) (fun _ _ _ h => h) (Or.inl ⟨by rfl, ?_⟩) ?_ ?_
                 rotate_left
                 ·intro w'
                  go_simp; with_reducible rfl
                 rotate_left
                 ·simp only [Act.put, List.setIfInBounds_toArray, List.set_cons_zero, List.set_cons_succ, i64_w, i32_w]
                  rfl
                 refine pure_ (i := 2) (N := some 149) (v := ?_) (a' := ?_) #[true, true, true, false, false, false, false, false, false, false, false, false, false, false, false, false, false, false, false, false] rfl rfl (any_of HT_.out (by kernel_rfl)) (fun _ _ _ h => h) (Or.inl ⟨by rfl, ?_⟩) ?_ ?_
                 rotate_left
                 ·intro w'
                  go_simp; with_reducible rfl
                 rotate_left
                 ·simp only [Act.put, List.setIfInBounds_toArray, List.set_cons_zero, List.set_cons_succ, i64_w, i32_w]
                  rfl
                 refine pure_ (i := 3) (N := some 150) (v := ?_) (a' := ?_) #[true, true, true, true, false, false, false, false, false, false, false, false, false, false, false, false, false, false, false, false] rfl rfl (any_of HT_.out (by kernel_rfl)) (fun _ _ _ h => h) (Or.inl ⟨by rfl, ?_⟩) ?_ ?_
                 rotate_left
                 ·intro w'
                  go_simp; with_reducible rfl
                 rotate_left
                 ·simp only [Act.put, List.setIfInBounds_toArray, List.set_cons_zero, List.set_cons_succ, i64_w, i32_w]
                  rfl
                 refine take_ (i := 5) (N := some 152) (v := ?_) (a' := ?_) #[true, true, true, true, false, true, false, false, false, false, false, false, false, false, false, false, false, false, false, false] rfl rfl (take_ofW HT_.out HW_.out (by kernel_rfl)) (fun _ _ _ h => h) (Or.inl ⟨by rfl, ?_⟩) hHeld ?_ ?_
                 rotate_left
                 ·rintro w' ⟨s0, s1, s2, s3⟩
                  go_simp; with_reducible rfl
                 rotate_left
                 ·simp only [Act.put, List.setIfInBounds_toArray, List.set_cons_zero, List.set_cons_succ, i64_w, i32_w]
                  rfl
                 refine one_ (i := 4) (N := some 151) #[true, true, true, true, true, true, false, false, false, false, false, false, false, false, false, false, false, false, false, false] rfl rfl (one_of HT_.out (by kernel_rfl)) (by decide) (fun K hK => ?_)
                 refine goes_ Try.func47 (by kernel_rfl) rfl #[.int .u64 t360, .int .u64 t360] (by rfl) rfl rfl aA ?_
                 with_reducible refine (wide_Mul.calls t360 t360 t364 t365 _ A184.out).mono ?_
                 rintro e w231 ⟨rfl, hb⟩
                 refine ⟨_, rfl, ?_⟩; have n0_ := Aside0.mk (blk_below (g := gb313) (o := .cells #[.int .u64 a0_0, .int .u64 a0_1] 25 (0, 0)) kA hb); have n1_ := Aside0.mk (blk_below (g := gb314) (o := .cells #[.int .u64 a1_0, .int .u64 a1_1] 25 (0, 0)) kA hb); have n2_ := Aside0.mk (blk_below (g := gb319) (o := .cells #[.int .u64 t316, .int .u64 t317] 25 (0, 0)) kA hb); have n3_ := Aside0.mk (blk_below (g := gb323) (o := .cells #[.int .u64 t320, .int .u64 t321] 25 (0, 0)) kA hb); have n4_ := Aside0.mk (blk_below (g := gb329) (o := .cells #[.int .u64 t325, .int .u64 t326] 25 (0, 0)) kA hb); have n5_ := Aside0.mk (blk_below (g := gb333) (o := .cells #[.int .u64 t330, .int .u64 t331] 25 (0, 0)) kA hb); have n6_ := Aside0.mk (blk_below (g := gb339) (o := .cells #[.int .u64 t336, .int .u64 t337] 25 (0, 0)) kA hb); have n7_ := Aside0.mk (blk_below (g := gb363) (o := .cells #[.int .u64 t361, .int .u64 t362] 25 (0, 0)) kA hb); have n8_ := Aside0.mk (below_step bA hb); clear BK313 BK314 BK319 BK323 BK329 BK333 BK339 BK363 HB; have BK313 := n0_; have BK314 := n1_; have BK319 := n2_; have BK323 := n3_; have BK329 := n4_; have BK333 := n5_; have BK339 := n6_; have BK363 := n7_; have HB := n8_; clear n0_ n1_ n2_ n3_ n4_ n5_ n6_ n7_ n8_; (try clear hb)
                 refine hK.out _ _ ⟨(blk_cell BK313.out 0).trans rfl, (blk_cell BK313.out 1).trans rfl, (blk_cell BK363.out 0).trans rfl, (blk_cell BK363.out 1).trans rfl⟩ (fun hHeld => ?_)
                 clear hK K
                 refine norm_ (a' := ?_) ?_ ?_
                 rotate_left
                 ·show Act.put _ (some 151) _ = _
                  simp only [Act.put, List.setIfInBounds_toArray, List.set_cons_zero, List.set_cons_succ, i64_w, i32_w]
                  rfl
                 refine one_ (i := 6) (N := some 153) #[true, true, true, true, true, true, true, false, false, false, false, false, false, false, false, false, false, false, false, false] rfl rfl (one_of HT_.out (by kernel_rfl)) (by decide) (fun K hK => ?_)
                 refine goes_ Try.func45 (by kernel_rfl) rfl #[.agg #[.int .u64 t364, .int .u64 t365], .agg #[.int .u64 a0_0, .int .u64 a0_1]] (by rfl) rfl rfl aA ?_
                 with_reducible refine (wide_Cmp.calls t364 t365 a0_0 a0_1 t366 _ A185.out).mono ?_
                 rintro e w232 ⟨rfl, hb⟩
                 refine ⟨_, rfl, ?_⟩; have n0_ := Aside0.mk (blk_below (g := gb313) (o := .cells #[.int .u64 a0_0, .int .u64 a0_1] 25 (0, 0)) kA hb); have n1_ := Aside0.mk (blk_below (g := gb314) (o := .cells #[.int .u64 a1_0, .int .u64 a1_1] 25 (0, 0)) kA hb); have n2_ := Aside0.mk (blk_below (g := gb319) (o := .cells #[.int .u64 t316, .int .u64 t317] 25 (0, 0)) kA hb); have n3_ := Aside0.mk (blk_below (g := gb323) (o := .cells #[.int .u64 t320, .int .u64 t321] 25 (0, 0)) kA hb); have n4_ := Aside0.mk (blk_below (g := gb329) (o := .cells #[.int .u64 t325, .int .u64 t326] 25 (0, 0)) kA hb); have n5_ := Aside0.mk (blk_below (g := gb333) (o := .cells #[.int .u64 t330, .int .u64 t331] 25 (0, 0)) kA hb); have n6_ := Aside0.mk (blk_below (g := gb339) (o := .cells #[.int .u64 t336, .int .u64 t337] 25 (0, 0)) kA hb); have n7_ := Aside0.mk (blk_below (g := gb363) (o := .cells #[.int .u64 t361, .int .u64 t362] 25 (0, 0)) kA hb); have n8_ := Aside0.mk (below_step bA hb); clear BK313 BK314 BK319 BK323 BK329 BK333 BK339 BK363 HB; have BK313 := n0_; have BK314 := n1_; have BK319 := n2_; have BK323 := n3_; have BK329 := n4_; have BK333 := n5_; have BK339 := n6_; have BK363 := n7_; have HB := n8_; clear n0_ n1_ n2_ n3_ n4_ n5_ n6_ n7_ n8_; (try clear hb)
                 refine hK.out _ _ ⟨(blk_cell BK313.out 0).trans rfl, (blk_cell BK313.out 1).trans rfl, (blk_cell BK363.out 0).trans rfl, (blk_cell BK363.out 1).trans rfl⟩ (fun hHeld => ?_)
                 clear hK K
                 refine norm_ (a' := ?_) ?_ ?_
                 rotate_left
                 ·show Act.put _ (some 153) _ = _
                  simp only [Act.put, List.setIfInBounds_toArray, List.set_cons_zero, List.set_cons_succ, i64_w, i32_w]
                  rfl
                 refine pure_ (i := 7) (N := some 154) (v := ?_) (a' := ?_) #[true, true, true, true, true, true, true, true, false, false, false, false, false, false, false, false, false, false, false, false] rfl rfl (any_of HT_.out (by kernel_rfl)) (fun _ _ _ h => h) (Or.inl ⟨by rfl, ?_⟩) ?_ ?_
                 rotate_left
                 ·intro w'
                  go_simp; with_reducible rfl
                 rotate_left
                 ·simp only [Act.put, List.setIfInBounds_toArray, List.set_cons_zero, List.set_cons_succ, i64_w, i32_w]
                  rfl
                 refine pure_ (i := 8) (N := some 155) (v := ?_) (a' := ?_) #[true, true, true, true, true, true, true, true, true, false, false, false, false, false, false, false, false, false, false, false] rfl rfl (any_of HT_.out (by kernel_rfl)) (fun _ _ _ h => h) (Or.inl ⟨by rfl, ?_⟩) ?_ ?_
                 rotate_left
                 ·intro w'
                  go_simp; with_reducible rfl
                 rotate_left
                 ·simp only [Act.put, List.setIfInBounds_toArray, List.set_cons_zero, List.set_cons_succ, i64_w, i32_w]
                  rfl
                 refine pure_ (i := 9) (N := some 156) (v := ?_) (a' := ?_) #[true, true, true, true, true, true, true, true, true, true, false, false, false, false, false, false, false, false, false, false] rfl rfl (any_of HT_.out (by kernel_rfl)) (fun _ _ _ h => h) (Or.inl ⟨by rfl, ?_⟩) ?_ ?_
                 rotate_left
                 ·intro w'
                  go_simp; with_reducible rfl
                 rotate_left
                 ·simp only [Act.put, List.setIfInBounds_toArray, List.set_cons_zero, List.set_cons_succ, i64_w, i32_w]
                  rfl
                 refine pure_ (i := 10) (N := some 157) (v := ?_) (a' := ?_) #[true, true, true, true, true, true, true, true, true, true, true, false, false, false, false, false, false, false, false, false] rfl rfl (any_of HT_.out (by kernel_rfl)) (fun _ _ _ h => h) (Or.inl ⟨by rfl, ?_⟩) ?_ ?_
                 rotate_left
                 ·intro w'
                  go_simp; with_reducible rfl
                 rotate_left
                 ·simp only [Act.put, List.setIfInBounds_toArray, List.set_cons_zero, List.set_cons_succ, i64_w, i32_w]
                  rfl
                 refine pure_ (i := 11) (N := some 158) (v := ?_) (a' := ?_) #[true, true, true, true, true, true, true, true, true, true, true, true, false, false, false, false, false, false, false, false] rfl rfl (any_of HT_.out (by kernel_rfl)) (fun _ _ _ h => h) (Or.inl ⟨by rfl, ?_⟩) ?_ ?_
                 rotate_left
                 ·intro w'
                  go_simp; with_reducible rfl
                 rotate_left
                 ·simp only [Act.put, List.setIfInBounds_toArray, List.set_cons_zero, List.set_cons_succ, i64_w, i32_w]
                  rfl
                 refine pure_ (i := 12) (N := some 159) (v := ?_) (a' := ?_) #[true, true, true, true, true, true, true, true, true, true, true, true, true, false, false, false, false, false, false, false] rfl rfl (any_of HT_.out (by kernel_rfl)) (fun _ _ _ h => h) (Or.inl ⟨by rfl, ?_⟩) ?_ ?_
                 rotate_left
                 ·intro w'
                  go_simp; with_reducible rfl
                 rotate_left
                 ·simp only [Act.put, List.setIfInBounds_toArray, List.set_cons_zero, List.set_cons_succ, i64_w, i32_w]
                  rfl
                 refine take_ (i := 13) (N := some 160) (v := ?_) (a' := ?_) #[true, true, true, true, true, true, true, true, true, true, true, true, true, true, false, false, false, false, false, false] rfl rfl (take_ofW HT_.out HW_.out (by kernel_rfl)) (fun _ _ _ h => h) (Or.inl ⟨by rfl, ?_⟩) hHeld ?_ ?_
                 rotate_left
                 ·rintro w' ⟨s0, s1, s2, s3⟩
                  go_simp; with_reducible rfl
                 rotate_left
                 ·simp only [Act.put, List.setIfInBounds_toArray, List.set_cons_zero, List.set_cons_succ, i64_w, i32_w]
                  rfl
                 refine take_ (i := 14) (N := some 161) (v := ?_) (a' := ?_) #[true, true, true, true, true, true, true, true, true, true, true, true, true, true, true, false, false, false, false, false] rfl rfl (take_ofW HT_.out HW_.out (by kernel_rfl)) (fun _ _ _ h => h) (Or.inl ⟨by rfl, ?_⟩) hHeld ?_ ?_
                 rotate_left
                 ·rintro w' ⟨s0, s1, s2, s3⟩
                  go_simp; with_reducible rfl
                 rotate_left
                 ·simp only [Act.put, List.setIfInBounds_toArray, List.set_cons_zero, List.set_cons_succ, i64_w, i32_w]
                  rfl
                 refine one_ (i := 15) (N := some 162) #[true, true, true, true, true, true, true, true, true, true, true, true, true, true, true, true, false, false, false, false] rfl rfl (one_of HT_.out (by kernel_rfl)) (by decide) (fun K hK => ?_)
                 refine goes_ Try.func45 (by kernel_rfl) rfl #[.agg #[.int .u64 t361, .int .u64 t362], .agg #[.int .u64 a0_0, .int .u64 a0_1]] (by rfl) rfl rfl aA ?_
                 with_reducible refine (wide_Cmp.calls t361 t362 a0_0 a0_1 t367 _ A210.out).mono ?_
                 rintro e w233 ⟨rfl, hb⟩
                 refine ⟨_, rfl, ?_⟩; have n0_ := Aside0.mk (blk_below (g := gb313) (o := .cells #[.int .u64 a0_0, .int .u64 a0_1] 25 (0, 0)) kA hb); have n1_ := Aside0.mk (blk_below (g := gb314) (o := .cells #[.int .u64 a1_0, .int .u64 a1_1] 25 (0, 0)) kA hb); have n2_ := Aside0.mk (blk_below (g := gb319) (o := .cells #[.int .u64 t316, .int .u64 t317] 25 (0, 0)) kA hb); have n3_ := Aside0.mk (blk_below (g := gb323) (o := .cells #[.int .u64 t320, .int .u64 t321] 25 (0, 0)) kA hb); have n4_ := Aside0.mk (blk_below (g := gb329) (o := .cells #[.int .u64 t325, .int .u64 t326] 25 (0, 0)) kA hb); have n5_ := Aside0.mk (blk_below (g := gb333) (o := .cells #[.int .u64 t330, .int .u64 t331] 25 (0, 0)) kA hb); have n6_ := Aside0.mk (blk_below (g := gb339) (o := .cells #[.int .u64 t336, .int .u64 t337] 25 (0, 0)) kA hb); have n7_ := Aside0.mk (blk_below (g := gb363) (o := .cells #[.int .u64 t361, .int .u64 t362] 25 (0, 0)) kA hb); have n8_ := Aside0.mk (below_step bA hb); clear BK313 BK314 BK319 BK323 BK329 BK333 BK339 BK363 HB; have BK313 := n0_; have BK314 := n1_; have BK319 := n2_; have BK323 := n3_; have BK329 := n4_; have BK333 := n5_; have BK339 := n6_; have BK363 := n7_; have HB := n8_; clear n0_ n1_ n2_ n3_ n4_ n5_ n6_ n7_ n8_; (try clear hb)
                 refine hK.out _ _ ⟨(blk_cell BK313.out 0).trans rfl, (blk_cell BK313.out 1).trans rfl, (blk_cell BK363.out 0).trans rfl, (blk_cell BK363.out 1).trans rfl⟩ (fun hHeld => ?_)
                 clear hK K
                 refine norm_ (a' := ?_) ?_ ?_
                 rotate_left
                 ·show Act.put _ (some 162) _ = _
                  simp only [Act.put, List.setIfInBounds_toArray, List.set_cons_zero, List.set_cons_succ, i64_w, i32_w]
                  rfl
                 refine pure_ (i := 16) (N := some 163) (v := ?_) (a' := ?_) #[true, true, true, true, true, true, true, true, true, true, true, true, true, true, true, true, true, false, false, false] rfl rfl (any_of HT_.out (by kernel_rfl)) (fun _ _ _ h => h) (Or.inl ⟨by rfl, ?_⟩) ?_ ?_
                 rotate_left
                 ·intro w'
                  go_simp; with_reducible rfl
                 rotate_left
                 ·simp only [Act.put, List.setIfInBounds_toArray, List.set_cons_zero, List.set_cons_succ, i64_w, i32_w]
                  rfl
                 refine pure_ (i := 17) (N := some 164) (v := ?_) (a' := ?_) #[true, true, true, true, true, true, true, true, true, true, true, true, true, true, true, true, true, true, false, false] rfl rfl (any_of HT_.out (by kernel_rfl)) (fun _ _ _ h => h) (Or.inl ⟨by rfl, ?_⟩) ?_ ?_
                 rotate_left
                 ·intro w'
                  go_simp; with_reducible rfl
                 rotate_left
                 ·simp only [Act.put, List.setIfInBounds_toArray, List.set_cons_zero, List.set_cons_succ, i64_w, i32_w]
                  rfl
                 refine pure_ (i := 18) (N := some 165) (v := ?_) (a' := ?_) #[true, true, true, true, true, true, true, true, true, true, true, true, true, true, true, true, true, true, true, false] rfl rfl (any_of HT_.out (by kernel_rfl)) (fun _ _ _ h => h) (Or.inl ⟨by rfl, ?_⟩) ?_ ?_
                 rotate_left
                 ·intro w'
                  go_simp; with_reducible rfl
                 rotate_left
                 ·simp only [Act.put, List.setIfInBounds_toArray, List.set_cons_zero, List.set_cons_succ, i64_w, i32_w]
                  rfl
                 refine pure_ (i := 19) (N := some 6) (v := ?_) (a' := ?_) #[true, true, true, true, true, true, true, true, true, true, true, true, true, true, true, true, true, true, true, true] rfl rfl (any_of HT_.out (by kernel_rfl)) (fun _ _ _ h => h) (Or.inl ⟨by rfl, ?_⟩) ?_ ?_
                 rotate_left
                 ·intro w'
                  go_simp; with_reducible rfl
                 rotate_left
                 ·simp only [Act.put, List.setIfInBounds_toArray, List.set_cons_zero, List.set_cons_succ, i64_w, i32_w]
                  rfl
                 refine done_ (done_of HT_.out (by kernel_rfl)) ?_
                 try go_wp2
                 go_ret
                 exact ⟨by first | rfl | (simp [errW_none, errW_some] <;> rfl) | (simp [*, errW_none, errW_some] <;> rfl), bA⟩
               ·rw [if_neg c186] at H
                have c186b0 : decide (t366 ≤ 0) = false := decide_eq_false c186
                clear c186
                exact absurd H (by simp)
              ·replace c183 := Bool.eq_false_iff.mpr c183
               subst c183
               have H1 : (none) = some r := by rw [if_neg (show ¬ (false = true) by decide)] at H; exact H
               clear H
               have H := H1
               clear H1
               exact absurd H (by simp)

end Go.Proofs.Ytcolhngdhlamkaa.GW
