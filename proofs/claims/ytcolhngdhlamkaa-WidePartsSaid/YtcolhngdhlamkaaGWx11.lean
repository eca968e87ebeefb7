-- Laid by a program of this session (wip/tools/pr.py): contracts and pure functions; Lean checks it.
import Derived.Test.YtcolhngdhlamkaaGWx0
import Derived.Test.YtcolhngdhlamkaaGWx1
import Derived.Test.YtcolhngdhlamkaaGWx4
import Derived.Test.YtcolhngdhlamkaaGWx5
import Derived.Test.YtcolhngdhlamkaaGWx9
import Derived.Test.YtcolhngdhlamkaaGWx10
namespace Go.Proofs.Ytcolhngdhlamkaa.GW
open Go.RowKit Go.Proofs.YtcolhngdhlamkaaW.PrintWords Go.Proofs.YtcolhngdhlamkaaW.PrintLast Go.Proofs.YtcolhngdhlamkaaW.PrintMore
attribute [local go_sem] max2_int min2_int max_two min_two max_three min_three max_four min_four   -- for this text's walks alone
set_option linter.unusedVariables false
set_option linter.unusedSimpArgs false

attribute [local go_sem high] eqA25
/-! ### backfilllaw01_WideParts: function 4 -/
def backfilllaw01_WideParts.f (k : Nat) (a0_0 : Int) (a0_1 : Int) (a1 : Int) (a2 : Int) : Option (Bool) := (backfilllaw01_shown.f k).bind fun t278 => ((wide_Div.f k a0_0 a0_1 a1).bind fun bt279 => ((backfilllaw01_ref.f a0_0 a0_1).bind fun bt284 => ((backfillref01_Div.f k bt284.1 bt284.2 a1).bind fun bt286 => (if t278 = true then ((backfilllaw01_num.f bt286.1 bt286.2.1).bind fun bt291 => (if (bt279.1 == bt291.1 && (bt279.2.1 == bt291.2)) = true then (if bt279.2.2.1 = bt286.2.2.1 then (if (bt279.2.2.2 == bt286.2.2.2) = true then ((wide_Shl.f a0_0 a0_1 a2).bind fun bt293 => ((backfilllaw01_ref.f a0_0 a0_1).bind fun bt295 => ((backfillref01_Shl.f bt295.1 bt295.2 a2).bind fun bt297 => ((backfilllaw01_num.f bt297.1 bt297.2).bind fun bt299 => (if (bt293.1 == bt299.1 && (bt293.2 == bt299.2)) = true then ((wide_Shr.f a0_0 a0_1 a2).bind fun bt301 => ((backfilllaw01_ref.f a0_0 a0_1).bind fun bt303 => ((backfillref01_Shr.f bt303.1 bt303.2 a2).bind fun bt305 => ((backfilllaw01_num.f bt305.1 bt305.2).bind fun bt307 => (if (bt301.1 == bt307.1 && (bt301.2 == bt307.2)) = true then ((wide_Sqrt.f k a0_0 a0_1).bind fun t309 => ((backfilllaw01_ref.f a0_0 a0_1).bind fun bt310 => ((backfillref01_Sqrt.f k bt310.1 bt310.2).bind fun t312 => (some (t309 == t312))))) else (none)))))) else (none)))))) else (none)) else (none)) else (none))) else (none)))))
theorem backfilllaw01_WideParts.mono : ∀ a0 a1 a2 a3 k, LeO (backfilllaw01_WideParts.f k a0 a1 a2 a3) (backfilllaw01_WideParts.f (k + 1) a0 a1 a2 a3) := by
 intro a0 a1 a2 a3 k
 unfold backfilllaw01_WideParts.f
 repeat' first
   | (with_reducible exact backfilllaw01_shown.mono _)
   | (with_reducible exact backfillref01_Div.mono _ _ _ _)
   | (with_reducible exact backfillref01_Sqrt.mono _ _ _)
   | (with_reducible exact wide_Div.mono _ _ _ _)
   | (with_reducible exact wide_Sqrt.mono _ _ _)
   | (with_reducible exact LeO.refl _)
   | (with_reducible exact LeO.none _)
   | (with_reducible refine LeO.ite ?_ ?_)
   | (with_reducible refine LeO.bind ?_ (fun _ => ?_))
   | exact backfilllaw01_shown.mono _
   | exact backfillref01_Div.mono _ _ _ _
   | exact backfillref01_Sqrt.mono _ _ _
   | exact wide_Div.mono _ _ _ _
   | exact wide_Sqrt.mono _ _ _
   | exact LeO.none _
   | refine LeO.ite ?_ ?_
   | refine LeO.bind ?_ (fun _ => ?_)
def backfilllaw01_WideParts.T4 : Bool × List (List Nat × List Nat) := (true, [([], []), ([0], [0]), ([1], [1]), ([1], [1]), ([3, 1, 1], [1, 3]), ([2, 4, 1], [1, 2, 4]), ([1, 5], [1, 5]), ([6, 4], [6]), ([7], [7]), ([7], [7]), ([8, 9, 7], [7, 8, 9]), ([7, 10], [7, 10]), ([11, 7], [11]), ([12], [12]), ([12], [12]), ([13, 14, 12], [12, 13, 14]), ([12, 15], [12, 15]), ([16, 12], [16]), ([17], [17]), ([17], [17]), ([18, 19, 17, 17], [17, 18, 19]), ([17], [17]), ([21, 20, 17], [17, 21]), ([17], [17]), ([22, 23, 22, 17], [17, 22, 23]), ([24, 24, 17], [17, 24]), ([20, 25, 17], [17, 20, 25]), ([17, 26], [17, 26]), ([27, 25], [27]), ([28], [28]), ([28], [28]), ([29, 30, 28, 28], [28, 29, 30]), ([28], [28]), ([32, 31, 28], [28, 32]), ([28], [28]), ([33, 34, 33, 28], [28, 33, 34]), ([35, 35, 28], [28, 35]), ([31, 36, 28], [28, 31, 36]), ([28, 37], [28, 37]), ([38, 36], [38]), ([39], [39]), ([40, 39, 39], [39, 40]), ([39], [39]), ([42, 41, 39], [39, 42]), ([43, 43, 39], [39, 43]), ([41, 44, 39], [39, 41, 44]), ([39, 45], [39, 45]), ([46, 44, 0, 1, 2, 3, 4, 5, 6, 7, 8, 9, 10, 11, 12, 13, 14, 15, 16, 17, 18, 19, 20, 21, 22, 23, 24, 25, 26, 27, 28, 29, 30, 31, 32, 33, 34, 35, 36, 37, 38, 39, 40, 41, 42, 43, 44, 45, 46], [46])])
def backfilllaw01_WideParts.B4 : List Nat := [0, 1, 3, 3, 11, 31, 63, 127, 255, 255, 1023, 2047, 4095, 8191, 8191, 32767, 65535, 131071, 262143, 262143, 1048575, 262143, 4194303, 262143, 16777215, 33554431, 67108863, 134217727, 268435455, 536870911, 536870911, 2147483647, 536870911, 8589934591, 536870911, 34359738367, 68719476735, 137438953471, 274877906943, 549755813887, 1099511627775, 2199023255551, 1099511627775, 8796093022207, 17592186044415, 35184372088831, 70368744177663, 140737488355327]
theorem backfilllaw01_WideParts.tab4 : rtab .any (opsOf Try.f4 4) = backfilllaw01_WideParts.T4 := by kernel_rfl
theorem backfilllaw01_WideParts.bits4 : waitsOk backfilllaw01_WideParts.T4.2 backfilllaw01_WideParts.B4 = true := by kernel_rfl
set_option maxHeartbeats 8000000 in
set_option maxRecDepth 100000 in
theorem backfilllaw01_WideParts.calls (k : Nat) (a0_0 : Int) (a0_1 : Int) (a1 : Int) (a2 : Int) (r : Bool) (w : World) (h : backfilllaw01_WideParts.f k a0_0 a0_1 a1 a2 = some r) :
  Calls Try.prog 4 #[.agg #[.int .u64 a0_0, .int .u64 a0_1], .int .u64 a1, .int .i64 a2] w fun e w' => e = .returned (.bool r) ∧ Below w.heap.size w w' := by
 have hu25 := Try.underlying25
 have hu28 := Try.underlying28
 have HB := Aside0.mk (Below.refl w.heap.size w)
 have H : ((backfilllaw01_shown.f k).bind fun t278 => ((wide_Div.f k a0_0 a0_1 a1).bind fun bt279 => ((backfilllaw01_ref.f a0_0 a0_1).bind fun bt284 => ((backfillref01_Div.f k bt284.1 bt284.2 a1).bind fun bt286 => (if t278 = true then ((backfilllaw01_num.f bt286.1 bt286.2.1).bind fun bt291 => (if (bt279.1 == bt291.1 && (bt279.2.1 == bt291.2)) = true then (if bt279.2.2.1 = bt286.2.2.1 then (if (bt279.2.2.2 == bt286.2.2.2) = true then ((wide_Shl.f a0_0 a0_1 a2).bind fun bt293 => ((backfilllaw01_ref.f a0_0 a0_1).bind fun bt295 => ((backfillref01_Shl.f bt295.1 bt295.2 a2).bind fun bt297 => ((backfilllaw01_num.f bt297.1 bt297.2).bind fun bt299 => (if (bt293.1 == bt299.1 && (bt293.2 == bt299.2)) = true then ((wide_Shr.f a0_0 a0_1 a2).bind fun bt301 => ((backfilllaw01_ref.f a0_0 a0_1).bind fun bt303 => ((backfillref01_Shr.f bt303.1 bt303.2 a2).bind fun bt305 => ((backfilllaw01_num.f bt305.1 bt305.2).bind fun bt307 => (if (bt301.1 == bt307.1 && (bt301.2 == bt307.2)) = true then ((wide_Sqrt.f k a0_0 a0_1).bind fun t309 => ((backfilllaw01_ref.f a0_0 a0_1).bind fun bt310 => ((backfillref01_Sqrt.f k bt310.1 bt310.2).bind fun t312 => (some (t309 == t312))))) else (none)))))) else (none)))))) else (none)) else (none)) else (none))) else (none)))))) = some r := h
 clear h; replace H := Option.bind_eq_some_iff.mp H; obtain ⟨t278, A40, H⟩ := H; replace H : ((wide_Div.f k a0_0 a0_1 a1).bind fun bt279 => ((backfilllaw01_ref.f a0_0 a0_1).bind fun bt284 => ((backfillref01_Div.f k bt284.1 bt284.2 a1).bind fun bt286 => (if t278 = true then ((backfilllaw01_num.f bt286.1 bt286.2.1).bind fun bt291 => (if (bt279.1 == bt291.1 && (bt279.2.1 == bt291.2)) = true then (if bt279.2.2.1 = bt286.2.2.1 then (if (bt279.2.2.2 == bt286.2.2.2) = true then ((wide_Shl.f a0_0 a0_1 a2).bind fun bt293 => ((backfilllaw01_ref.f a0_0 a0_1).bind fun bt295 => ((backfillref01_Shl.f bt295.1 bt295.2 a2).bind fun bt297 => ((backfilllaw01_num.f bt297.1 bt297.2).bind fun bt299 => (if (bt293.1 == bt299.1 && (bt293.2 == bt299.2)) = true then ((wide_Shr.f a0_0 a0_1 a2).bind fun bt301 => ((backfilllaw01_ref.f a0_0 a0_1).bind fun bt303 => ((backfillref01_Shr.f bt303.1 bt303.2 a2).bind fun bt305 => ((backfilllaw01_num.f bt305.1 bt305.2).bind fun bt307 => (if (bt301.1 == bt307.1 && (bt301.2 == bt307.2)) = true then ((wide_Sqrt.f k a0_0 a0_1).bind fun t309 => ((backfilllaw01_ref.f a0_0 a0_1).bind fun bt310 => ((backfillref01_Sqrt.f k bt310.1 bt310.2).bind fun t312 => (some (t309 == t312))))) else (none)))))) else (none)))))) else (none)) else (none)) else (none))) else (none))))) = some r := H; have A4 := Aside0.mk A40; clear A40; replace H := Option.bind_eq_some_iff.mp H; obtain ⟨⟨t279, t280, t281, t282⟩, A50, H⟩ := H; replace H : ((backfilllaw01_ref.f a0_0 a0_1).bind fun bt284 => ((backfillref01_Div.f k bt284.1 bt284.2 a1).bind fun bt286 => (if t278 = true then ((backfilllaw01_num.f bt286.1 bt286.2.1).bind fun bt291 => (if (t279 == bt291.1 && (t280 == bt291.2)) = true then (if t281 = bt286.2.2.1 then (if (t282 == bt286.2.2.2) = true then ((wide_Shl.f a0_0 a0_1 a2).bind fun bt293 => ((backfilllaw01_ref.f a0_0 a0_1).bind fun bt295 => ((backfillref01_Shl.f bt295.1 bt295.2 a2).bind fun bt297 => ((backfilllaw01_num.f bt297.1 bt297.2).bind fun bt299 => (if (bt293.1 == bt299.1 && (bt293.2 == bt299.2)) = true then ((wide_Shr.f a0_0 a0_1 a2).bind fun bt301 => ((backfilllaw01_ref.f a0_0 a0_1).bind fun bt303 => ((backfillref01_Shr.f bt303.1 bt303.2 a2).bind fun bt305 => ((backfilllaw01_num.f bt305.1 bt305.2).bind fun bt307 => (if (bt301.1 == bt307.1 && (bt301.2 == bt307.2)) = true then ((wide_Sqrt.f k a0_0 a0_1).bind fun t309 => ((backfilllaw01_ref.f a0_0 a0_1).bind fun bt310 => ((backfillref01_Sqrt.f k bt310.1 bt310.2).bind fun t312 => (some (t309 == t312))))) else (none)))))) else (none)))))) else (none)) else (none)) else (none))) else (none)))) = some r := H; have A5 := Aside0.mk A50; clear A50; replace H := Option.bind_eq_some_iff.mp H; obtain ⟨⟨t284, t285⟩, A60, H⟩ := H; replace H : ((backfillref01_Div.f k t284 t285 a1).bind fun bt286 => (if t278 = true then ((backfilllaw01_num.f bt286.1 bt286.2.1).bind fun bt291 => (if (t279 == bt291.1 && (t280 == bt291.2)) = true then (if t281 = bt286.2.2.1 then (if (t282 == bt286.2.2.2) = true then ((wide_Shl.f a0_0 a0_1 a2).bind fun bt293 => ((backfilllaw01_ref.f a0_0 a0_1).bind fun bt295 => ((backfillref01_Shl.f bt295.1 bt295.2 a2).bind fun bt297 => ((backfilllaw01_num.f bt297.1 bt297.2).bind fun bt299 => (if (bt293.1 == bt299.1 && (bt293.2 == bt299.2)) = true then ((wide_Shr.f a0_0 a0_1 a2).bind fun bt301 => ((backfilllaw01_ref.f a0_0 a0_1).bind fun bt303 => ((backfillref01_Shr.f bt303.1 bt303.2 a2).bind fun bt305 => ((backfilllaw01_num.f bt305.1 bt305.2).bind fun bt307 => (if (bt301.1 == bt307.1 && (bt301.2 == bt307.2)) = true then ((wide_Sqrt.f k a0_0 a0_1).bind fun t309 => ((backfilllaw01_ref.f a0_0 a0_1).bind fun bt310 => ((backfillref01_Sqrt.f k bt310.1 bt310.2).bind fun t312 => (some (t309 == t312))))) else (none)))))) else (none)))))) else (none)) else (none)) else (none))) else (none))) = some r := H; have A6 := Aside0.mk A60; clear A60; replace H := Option.bind_eq_some_iff.mp H; obtain ⟨⟨t286, t287, t288, t289⟩, A70, H⟩ := H; replace H : (if t278 = true then ((backfilllaw01_num.f t286 t287).bind fun bt291 => (if (t279 == bt291.1 && (t280 == bt291.2)) = true then (if t281 = t288 then (if (t282 == t289) = true then ((wide_Shl.f a0_0 a0_1 a2).bind fun bt293 => ((backfilllaw01_ref.f a0_0 a0_1).bind fun bt295 => ((backfillref01_Shl.f bt295.1 bt295.2 a2).bind fun bt297 => ((backfilllaw01_num.f bt297.1 bt297.2).bind fun bt299 => (if (bt293.1 == bt299.1 && (bt293.2 == bt299.2)) = true then ((wide_Shr.f a0_0 a0_1 a2).bind fun bt301 => ((backfilllaw01_ref.f a0_0 a0_1).bind fun bt303 => ((backfillref01_Shr.f bt303.1 bt303.2 a2).bind fun bt305 => ((backfilllaw01_num.f bt305.1 bt305.2).bind fun bt307 => (if (bt301.1 == bt307.1 && (bt301.2 == bt307.2)) = true then ((wide_Sqrt.f k a0_0 a0_1).bind fun t309 => ((backfilllaw01_ref.f a0_0 a0_1).bind fun bt310 => ((backfillref01_Sqrt.f k bt310.1 bt310.2).bind fun t312 => (some (t309 == t312))))) else (none)))))) else (none)))))) else (none)) else (none)) else (none))) else (none)) = some r := H
 have A7 := Aside0.mk A70; clear A70
 by_cases c8 : t278 = true
 ·subst c8
  have H1 : ((backfilllaw01_num.f t286 t287).bind fun bt291 => (if (t279 == bt291.1 && (t280 == bt291.2)) = true then (if t281 = t288 then (if (t282 == t289) = true then ((wide_Shl.f a0_0 a0_1 a2).bind fun bt293 => ((backfilllaw01_ref.f a0_0 a0_1).bind fun bt295 => ((backfillref01_Shl.f bt295.1 bt295.2 a2).bind fun bt297 => ((backfilllaw01_num.f bt297.1 bt297.2).bind fun bt299 => (if (bt293.1 == bt299.1 && (bt293.2 == bt299.2)) = true then ((wide_Shr.f a0_0 a0_1 a2).bind fun bt301 => ((backfilllaw01_ref.f a0_0 a0_1).bind fun bt303 => ((backfillref01_Shr.f bt303.1 bt303.2 a2).bind fun bt305 => ((backfilllaw01_num.f bt305.1 bt305.2).bind fun bt307 => (if (bt301.1 == bt307.1 && (bt301.2 == bt307.2)) = true then ((wide_Sqrt.f k a0_0 a0_1).bind fun t309 => ((backfilllaw01_ref.f a0_0 a0_1).bind fun bt310 => ((backfillref01_Sqrt.f k bt310.1 bt310.2).bind fun t312 => (some (t309 == t312))))) else (none)))))) else (none)))))) else (none)) else (none)) else (none))) = some r := by rw [if_pos rfl] at H; exact H
  clear H
  have H := H1
  clear H1; replace H := Option.bind_eq_some_iff.mp H; obtain ⟨⟨t291, t292⟩, A90, H⟩ := H; replace H : (if (t279 == t291 && (t280 == t292)) = true then (if t281 = t288 then (if (t282 == t289) = true then ((wide_Shl.f a0_0 a0_1 a2).bind fun bt293 => ((backfilllaw01_ref.f a0_0 a0_1).bind fun bt295 => ((backfillref01_Shl.f bt295.1 bt295.2 a2).bind fun bt297 => ((backfilllaw01_num.f bt297.1 bt297.2).bind fun bt299 => (if (bt293.1 == bt299.1 && (bt293.2 == bt299.2)) = true then ((wide_Shr.f a0_0 a0_1 a2).bind fun bt301 => ((backfilllaw01_ref.f a0_0 a0_1).bind fun bt303 => ((backfillref01_Shr.f bt303.1 bt303.2 a2).bind fun bt305 => ((backfilllaw01_num.f bt305.1 bt305.2).bind fun bt307 => (if (bt301.1 == bt307.1 && (bt301.2 == bt307.2)) = true then ((wide_Sqrt.f k a0_0 a0_1).bind fun t309 => ((backfilllaw01_ref.f a0_0 a0_1).bind fun bt310 => ((backfillref01_Sqrt.f k bt310.1 bt310.2).bind fun t312 => (some (t309 == t312))))) else (none)))))) else (none)))))) else (none)) else (none)) else (none)) = some r := H; have A9 := Aside0.mk A90; clear A90
  by_cases c10 : (t279 == t291 && (t280 == t292)) = true
  ·rw [if_pos c10] at H
   have c10b0 : (t279 == t291 && (t280 == t292)) = true := c10
   (try (have c10b1 : decide (t279 = t291 && (t280 == t292)) = true := by simpa using c10))
   (try (have c10b2 : (t279 == t291 && (t280 == t292)) = true := by simpa using c10))
   clear c10
   by_cases c11 : t281 = t288
   ·rw [if_pos c11] at H
    have c11b0 : (t281 == t288) = true := beq_iff_eq.mpr c11
    have c11b1 : (t281 != t288) = false := bne_eq_false_iff_eq.mpr c11
    clear c11
    by_cases c12 : (t282 == t289) = true
    ·rw [if_pos c12] at H
     have c12b0 : (t282 == t289) = true := c12
     (try (have c12b1 : decide (t282 = t289) = true := by simpa using c12))
     (try (have c12b2 : (t282 == t289) = true := by simpa using c12))
     clear c12; replace H := Option.bind_eq_some_iff.mp H; obtain ⟨⟨t293, t294⟩, A130, H⟩ := H; replace H : ((backfilllaw01_ref.f a0_0 a0_1).bind fun bt295 => ((backfillref01_Shl.f bt295.1 bt295.2 a2).bind fun bt297 => ((backfilllaw01_num.f bt297.1 bt297.2).bind fun bt299 => (if (t293 == bt299.1 && (t294 == bt299.2)) = true then ((wide_Shr.f a0_0 a0_1 a2).bind fun bt301 => ((backfilllaw01_ref.f a0_0 a0_1).bind fun bt303 => ((backfillref01_Shr.f bt303.1 bt303.2 a2).bind fun bt305 => ((backfilllaw01_num.f bt305.1 bt305.2).bind fun bt307 => (if (bt301.1 == bt307.1 && (bt301.2 == bt307.2)) = true then ((wide_Sqrt.f k a0_0 a0_1).bind fun t309 => ((backfilllaw01_ref.f a0_0 a0_1).bind fun bt310 => ((backfillref01_Sqrt.f k bt310.1 bt310.2).bind fun t312 => (some (t309 == t312))))) else (none)))))) else (none))))) = some r := H; have A13 := Aside0.mk A130; clear A130; replace H := Option.bind_eq_some_iff.mp H; obtain ⟨⟨t295, t296⟩, A140, H⟩ := H; replace H : ((backfillref01_Shl.f t295 t296 a2).bind fun bt297 => ((backfilllaw01_num.f bt297.1 bt297.2).bind fun bt299 => (if (t293 == bt299.1 && (t294 == bt299.2)) = true then ((wide_Shr.f a0_0 a0_1 a2).bind fun bt301 => ((backfilllaw01_ref.f a0_0 a0_1).bind fun bt303 => ((backfillref01_Shr.f bt303.1 bt303.2 a2).bind fun bt305 => ((backfilllaw01_num.f bt305.1 bt305.2).bind fun bt307 => (if (bt301.1 == bt307.1 && (bt301.2 == bt307.2)) = true then ((wide_Sqrt.f k a0_0 a0_1).bind fun t309 => ((backfilllaw01_ref.f a0_0 a0_1).bind fun bt310 => ((backfillref01_Sqrt.f k bt310.1 bt310.2).bind fun t312 => (some (t309 == t312))))) else (none)))))) else (none)))) = some r := H; have A14 := Aside0.mk A140; clear A140; replace H := Option.bind_eq_some_iff.mp H; obtain ⟨⟨t297, t298⟩, A150, H⟩ := H; replace H : ((backfilllaw01_num.f t297 t298).bind fun bt299 => (if (t293 == bt299.1 && (t294 == bt299.2)) = true then ((wide_Shr.f a0_0 a0_1 a2).bind fun bt301 => ((backfilllaw01_ref.f a0_0 a0_1).bind fun bt303 => ((backfillref01_Shr.f bt303.1 bt303.2 a2).bind fun bt305 => ((backfilllaw01_num.f bt305.1 bt305.2).bind fun bt307 => (if (bt301.1 == bt307.1 && (bt301.2 == bt307.2)) = true then ((wide_Sqrt.f k a0_0 a0_1).bind fun t309 => ((backfilllaw01_ref.f a0_0 a0_1).bind fun bt310 => ((backfillref01_Sqrt.f k bt310.1 bt310.2).bind fun t312 => (some (t309 == t312))))) else (none)))))) else (none))) = some r := H; have A15 := Aside0.mk A150; clear A150; replace H := Option.bind_eq_some_iff.mp H; obtain ⟨⟨t299, t300⟩, A160, H⟩ := H; replace H : (if (t293 == t299 && (t294 == t300)) = true then ((wide_Shr.f a0_0 a0_1 a2).bind fun bt301 => ((backfilllaw01_ref.f a0_0 a0_1).bind fun bt303 => ((backfillref01_Shr.f bt303.1 bt303.2 a2).bind fun bt305 => ((backfilllaw01_num.f bt305.1 bt305.2).bind fun bt307 => (if (bt301.1 == bt307.1 && (bt301.2 == bt307.2)) = true then ((wide_Sqrt.f k a0_0 a0_1).bind fun t309 => ((backfilllaw01_ref.f a0_0 a0_1).bind fun bt310 => ((backfillref01_Sqrt.f k bt310.1 bt310.2).bind fun t312 => (some (t309 == t312))))) else (none)))))) else (none)) = some r := H; have A16 := Aside0.mk A160; clear A160
     by_cases c17 : (t293 == t299 && (t294 == t300)) = true
     ·rw [if_pos c17] at H
      have c17b0 : (t293 == t299 && (t294 == t300)) = true := c17
      (try (have c17b1 : decide (t293 = t299 && (t294 == t300)) = true := by simpa using c17))
      (try (have c17b2 : (t293 == t299 && (t294 == t300)) = true := by simpa using c17))
      clear c17; replace H := Option.bind_eq_some_iff.mp H; obtain ⟨⟨t301, t302⟩, A180, H⟩ := H; replace H : ((backfilllaw01_ref.f a0_0 a0_1).bind fun bt303 => ((backfillref01_Shr.f bt303.1 bt303.2 a2).bind fun bt305 => ((backfilllaw01_num.f bt305.1 bt305.2).bind fun bt307 => (if (t301 == bt307.1 && (t302 == bt307.2)) = true then ((wide_Sqrt.f k a0_0 a0_1).bind fun t309 => ((backfilllaw01_ref.f a0_0 a0_1).bind fun bt310 => ((backfillref01_Sqrt.f k bt310.1 bt310.2).bind fun t312 => (some (t309 == t312))))) else (none))))) = some r := H; have A18 := Aside0.mk A180; clear A180; replace H := Option.bind_eq_some_iff.mp H; obtain ⟨⟨t303, t304⟩, A190, H⟩ := H; replace H : ((backfillref01_Shr.f t303 t304 a2).bind fun bt305 => ((backfilllaw01_num.f bt305.1 bt305.2).bind fun bt307 => (if (t301 == bt307.1 && (t302 == bt307.2)) = true then ((wide_Sqrt.f k a0_0 a0_1).bind fun t309 => ((backfilllaw01_ref.f a0_0 a0_1).bind fun bt310 => ((backfillref01_Sqrt.f k bt310.1 bt310.2).bind fun t312 => (some (t309 == t312))))) else (none)))) = some r := H; have A19 := Aside0.mk A190; clear A190; replace H := Option.bind_eq_some_iff.mp H; obtain ⟨⟨t305, t306⟩, A200, H⟩ := H; replace H : ((backfilllaw01_num.f t305 t306).bind fun bt307 => (if (t301 == bt307.1 && (t302 == bt307.2)) = true then ((wide_Sqrt.f k a0_0 a0_1).bind fun t309 => ((backfilllaw01_ref.f a0_0 a0_1).bind fun bt310 => ((backfillref01_Sqrt.f k bt310.1 bt310.2).bind fun t312 => (some (t309 == t312))))) else (none))) = some r := H; have A20 := Aside0.mk A200; clear A200; replace H := Option.bind_eq_some_iff.mp H; obtain ⟨⟨t307, t308⟩, A210, H⟩ := H; replace H : (if (t301 == t307 && (t302 == t308)) = true then ((wide_Sqrt.f k a0_0 a0_1).bind fun t309 => ((backfilllaw01_ref.f a0_0 a0_1).bind fun bt310 => ((backfillref01_Sqrt.f k bt310.1 bt310.2).bind fun t312 => (some (t309 == t312))))) else (none)) = some r := H; have A21 := Aside0.mk A210; clear A210
      by_cases c22 : (t301 == t307 && (t302 == t308)) = true
      ·rw [if_pos c22] at H
       have c22b0 : (t301 == t307 && (t302 == t308)) = true := c22
       (try (have c22b1 : decide (t301 = t307 && (t302 == t308)) = true := by simpa using c22))
       (try (have c22b2 : (t301 == t307 && (t302 == t308)) = true := by simpa using c22))
       clear c22; replace H := Option.bind_eq_some_iff.mp H; obtain ⟨t309, A230, H⟩ := H; replace H : ((backfilllaw01_ref.f a0_0 a0_1).bind fun bt310 => ((backfillref01_Sqrt.f k bt310.1 bt310.2).bind fun t312 => (some (t309 == t312)))) = some r := H; have A23 := Aside0.mk A230; clear A230; replace H := Option.bind_eq_some_iff.mp H; obtain ⟨⟨t310, t311⟩, A240, H⟩ := H; replace H : ((backfillref01_Sqrt.f k t310 t311).bind fun t312 => (some (t309 == t312))) = some r := H; have A24 := Aside0.mk A240; clear A240; replace H := Option.bind_eq_some_iff.mp H; obtain ⟨t312, A250, H⟩ := H; replace H : (some (t309 == t312)) = some r := H; have A25 := Aside0.mk A250; clear A250
       obtain rfl := Option.some.inj H
       go_enter Try.func4, Try.ntmps4
       try go_wp2_with (first | ((with_reducible refine gate_dst (N := 3) rfl ?_); refine bxA 3 #[.int .u64 a0_0, .int .u64 a0_1] 25 ?_; intro gb277 hg w26 hbox hb; have n0_ := Aside0.mk (below_step bA hb); have n1_ := Aside0.mk (hbox); have n2_ := Aside0.mk ((by rw [hg]; exact (below_size bA) : w.heap.size ≤ gb277)); have n3_ := Aside0.mk ((by rw [hg]; exact (below_size bA) : w.heap.size ≤ gb277)); clear HB; have HB := n0_; have BK277 := n1_; have GW277 := n2_; have GE277 := n3_; clear n0_ n1_ n2_ n3_ hb hbox hg) | ((with_reducible refine gate_callee (f := 13) rfl ?_); refine goesL_ (some 14) rfl rfl Try.func13 (by kernel_rfl) rfl #[] rfl aA ?_; (with_reducible refine (backfilllaw01_shown.calls k  true _ A4.out).mono ?_); rintro e w27 ⟨rfl, hb⟩; refine ⟨_, rfl, ?_⟩; have n0_ := Aside0.mk (blk_below (g := gb277) (o := .cells #[.int .u64 a0_0, .int .u64 a0_1] 25 (0, 0)) kA hb); have n1_ := Aside0.mk (below_step bA hb); clear BK277 HB; have BK277 := n0_; have HB := n1_; clear n0_ n1_; (try clear hb); have hcz28_0 : w27.cell? ⟨gb277, 0, none⟩ = some (.int .u64 a0_0) := (blk_cell BK277.out 0).trans rfl; have hcz28_1 : w27.cell? ⟨gb277, 1, none⟩ = some (.int .u64 a0_1) := (blk_cell BK277.out 1).trans rfl; have hfz28_0 := blk_frozen BK277.out 0; have hfz28_1 := blk_frozen BK277.out 1) | ((with_reducible refine gate_callee (f := 14) rfl ?_); refine goesL_ (some 18) rfl rfl Try.func14 (by kernel_rfl) rfl #[.agg #[.int .u64 a0_0, .int .u64 a0_1], .int .u64 a1] rfl aA ?_; (with_reducible refine (wide_Div.calls k a0_0 a0_1 a1 t279 t280 t281 t282 _ A5.out).mono ?_); rintro e w29 ⟨rfl, hb⟩; refine ⟨_, rfl, ?_⟩; have n0_ := Aside0.mk (blk_below (g := gb277) (o := .cells #[.int .u64 a0_0, .int .u64 a0_1] 25 (0, 0)) kA hb); have n1_ := Aside0.mk (below_step bA hb); clear BK277 HB; have BK277 := n0_; have HB := n1_; clear n0_ n1_; (try clear hb)) | ((with_reducible refine gate_dst (N := 8) rfl ?_); refine bxA 8 #[.int .u64 0, .int .u64 0] 25 ?_; intro gb283 hg w30 hbox hb; have n0_ := Aside0.mk (blk_below (g := gb277) (o := .cells #[.int .u64 a0_0, .int .u64 a0_1] 25 (0, 0)) kA hb); have n1_ := Aside0.mk (below_step bA hb); have n2_ := Aside0.mk (hbox); have n3_ := Aside0.mk ((by rw [hg]; exact (below_size bA) : w.heap.size ≤ gb283)); have n4_ := Aside0.mk ((by rw [hg]; exact (below_size bA) : w.heap.size ≤ gb283)); have n5_ := Aside0.mk ((by rw [hg]; exact Nat.ne_of_lt (blk_lt (g := gb277) (o := .cells #[.int .u64 a0_0, .int .u64 a0_1] 25 (0, 0)) kA) : gb277 ≠ gb283)); have n6_ := Aside0.mk ((by rw [hg]; exact Nat.ne_of_gt (blk_lt (g := gb277) (o := .cells #[.int .u64 a0_0, .int .u64 a0_1] 25 (0, 0)) kA) : gb283 ≠ gb277)); clear BK277 HB; have BK277 := n0_; have HB := n1_; have BK283 := n2_; have GW283 := n3_; have GE283 := n4_; have NB277_283 := n5_; have NB283_277 := n6_; clear n0_ n1_ n2_ n3_ n4_ n5_ n6_ hb hbox hg; have hnb31 := NB283_277.out; have hnc31 := NB277_283.out; have hcz32_0 : w30.cell? ⟨gb283, 0, none⟩ = some (.int .u64 0) := (blk_cell BK283.out 0).trans rfl; have hcz32_1 : w30.cell? ⟨gb283, 1, none⟩ = some (.int .u64 0) := (blk_cell BK283.out 1).trans rfl; have hfz32_0 := blk_frozen BK283.out 0; have hfz32_1 := blk_frozen BK283.out 1; have hcz33_0 : w30.cell? ⟨gb277, 0, none⟩ = some (.int .u64 a0_0) := (blk_cell BK277.out 0).trans rfl; have hcz33_1 : w30.cell? ⟨gb277, 1, none⟩ = some (.int .u64 a0_1) := (blk_cell BK277.out 1).trans rfl; have hfz33_0 := blk_frozen BK277.out 0; have hfz33_1 := blk_frozen BK277.out 1) | ((with_reducible refine gate_callee (f := 16) rfl ?_); refine goesL_ (some 24) rfl rfl Try.func16 (by kernel_rfl) rfl #[.agg #[.int .u64 a0_0, .int .u64 a0_1]] rfl aA ?_; (with_reducible refine (backfilllaw01_ref.calls a0_0 a0_1 t284 t285 _ A6.out).mono ?_); rintro e w34 ⟨rfl, hb⟩; refine ⟨_, rfl, ?_⟩; have n0_ := Aside0.mk (blk_below (g := gb277) (o := .cells #[.int .u64 a0_0, .int .u64 a0_1] 25 (0, 0)) (by (with_reducible repeat (first | refine blk_drewN ?_ _ | refine blk_drew ?_ | refine blk_alloc ?_ _)); refine blk_far ?_ NB277_283.out _; (with_reducible repeat (first | refine blk_drewN ?_ _ | refine blk_drew ?_ | refine blk_alloc ?_ _)); refine blk_far ?_ NB277_283.out _; (with_reducible repeat (first | refine blk_drewN ?_ _ | refine blk_drew ?_ | refine blk_alloc ?_ _)); exact BK277.out) hb); have n1_ := Aside0.mk (blk_below (g := gb283) (o := .cells #[.int .u64 t279, .int .u64 t280] 25 (0, 0)) (by (with_reducible repeat (first | refine blk_drewN ?_ _ | refine blk_drew ?_ | refine blk_alloc ?_ _)); refine blk_put (cs := #[.int .u64 t279, .int .u64 0]) ?_ 1 _ rfl; (with_reducible repeat (first | refine blk_drewN ?_ _ | refine blk_drew ?_ | refine blk_alloc ?_ _)); refine blk_put (cs := #[.int .u64 0, .int .u64 0]) ?_ 0 _ rfl; (with_reducible repeat (first | refine blk_drewN ?_ _ | refine blk_drew ?_ | refine blk_alloc ?_ _)); exact BK283.out) hb); have n2_ := Aside0.mk (below_step bA hb); clear BK277 BK283 HB; have BK277 := n0_; have BK283 := n1_; have HB := n2_; clear n0_ n1_ n2_; (try clear hb)) | ((with_reducible refine gate_callee (f := 15) rfl ?_); refine goesL_ (some 26) rfl rfl Try.func15 (by kernel_rfl) rfl #[.agg #[.int .u64 t284, .int .u64 t285], .int .u64 a1] rfl aA ?_; (with_reducible refine (backfillref01_Div.calls k t284 t285 a1 t286 t287 t288 t289 _ A7.out).mono ?_); rintro e w35 ⟨rfl, hb⟩; refine ⟨_, rfl, ?_⟩; have n0_ := Aside0.mk (blk_below (g := gb277) (o := .cells #[.int .u64 a0_0, .int .u64 a0_1] 25 (0, 0)) kA hb); have n1_ := Aside0.mk (blk_below (g := gb283) (o := .cells #[.int .u64 t279, .int .u64 t280] 25 (0, 0)) kA hb); have n2_ := Aside0.mk (below_step bA hb); clear BK277 BK283 HB; have BK277 := n0_; have BK283 := n1_; have HB := n2_; clear n0_ n1_ n2_; (try clear hb)) | ((with_reducible refine gate_dst (N := 11) rfl ?_); refine bxA 11 #[.int .u64 0, .int .u64 0] 28 ?_; intro gb290 hg w36 hbox hb; have n0_ := Aside0.mk (blk_below (g := gb277) (o := .cells #[.int .u64 a0_0, .int .u64 a0_1] 25 (0, 0)) kA hb); have n1_ := Aside0.mk (blk_below (g := gb283) (o := .cells #[.int .u64 t279, .int .u64 t280] 25 (0, 0)) kA hb); have n2_ := Aside0.mk (below_step bA hb); have n3_ := Aside0.mk (hbox); have n4_ := Aside0.mk ((by rw [hg]; exact (below_size bA) : w.heap.size ≤ gb290)); have n5_ := Aside0.mk ((by rw [hg]; exact (below_size bA) : w.heap.size ≤ gb290)); have n6_ := Aside0.mk ((by rw [hg]; exact Nat.ne_of_lt (blk_lt (g := gb277) (o := .cells #[.int .u64 a0_0, .int .u64 a0_1] 25 (0, 0)) kA) : gb277 ≠ gb290)); have n7_ := Aside0.mk ((by rw [hg]; exact Nat.ne_of_gt (blk_lt (g := gb277) (o := .cells #[.int .u64 a0_0, .int .u64 a0_1] 25 (0, 0)) kA) : gb290 ≠ gb277)); have n8_ := Aside0.mk ((by rw [hg]; exact Nat.ne_of_lt (blk_lt (g := gb283) (o := .cells #[.int .u64 t279, .int .u64 t280] 25 (0, 0)) kA) : gb283 ≠ gb290)); have n9_ := Aside0.mk ((by rw [hg]; exact Nat.ne_of_gt (blk_lt (g := gb283) (o := .cells #[.int .u64 t279, .int .u64 t280] 25 (0, 0)) kA) : gb290 ≠ gb283)); clear BK277 BK283 HB; have BK277 := n0_; have BK283 := n1_; have HB := n2_; have BK290 := n3_; have GW290 := n4_; have GE290 := n5_; have NB277_290 := n6_; have NB290_277 := n7_; have NB283_290 := n8_; have NB290_283 := n9_; clear n0_ n1_ n2_ n3_ n4_ n5_ n6_ n7_ n8_ n9_ hb hbox hg; have hnb37 := NB290_277.out; have hnc37 := NB277_290.out; have hnb38 := NB290_283.out; have hnc38 := NB283_290.out; have hcz39_0 : w36.cell? ⟨gb290, 0, none⟩ = some (.int .u64 0) := (blk_cell BK290.out 0).trans rfl; have hcz39_1 : w36.cell? ⟨gb290, 1, none⟩ = some (.int .u64 0) := (blk_cell BK290.out 1).trans rfl; have hfz39_0 := blk_frozen BK290.out 0; have hfz39_1 := blk_frozen BK290.out 1))
       have n0_ : Aside0 (((w36.setCell ⟨gb290, 0, none⟩ (.int .u64 t286)).setCell ⟨gb290, 1, none⟩ (.int .u64 t287)).heap[gb277]? = some (.cells #[.int .u64 a0_0, .int .u64 a0_1] 25 (0, 0))) := ⟨by (with_reducible repeat (first | refine blk_drewN ?_ _ | refine blk_drew ?_ | refine blk_alloc ?_ _)); refine blk_far ?_ NB277_290.out _; (with_reducible repeat (first | refine blk_drewN ?_ _ | refine blk_drew ?_ | refine blk_alloc ?_ _)); refine blk_far ?_ NB277_290.out _; (with_reducible repeat (first | refine blk_drewN ?_ _ | refine blk_drew ?_ | refine blk_alloc ?_ _)); exact BK277.out⟩
       have n1_ : Aside0 (((w36.setCell ⟨gb290, 0, none⟩ (.int .u64 t286)).setCell ⟨gb290, 1, none⟩ (.int .u64 t287)).heap[gb283]? = some (.cells #[.int .u64 t279, .int .u64 t280] 25 (0, 0))) := ⟨by (with_reducible repeat (first | refine blk_drewN ?_ _ | refine blk_drew ?_ | refine blk_alloc ?_ _)); refine blk_far ?_ NB283_290.out _; (with_reducible repeat (first | refine blk_drewN ?_ _ | refine blk_drew ?_ | refine blk_alloc ?_ _)); refine blk_far ?_ NB283_290.out _; (with_reducible repeat (first | refine blk_drewN ?_ _ | refine blk_drew ?_ | refine blk_alloc ?_ _)); exact BK283.out⟩
       have n2_ : Aside0 (((w36.setCell ⟨gb290, 0, none⟩ (.int .u64 t286)).setCell ⟨gb290, 1, none⟩ (.int .u64 t287)).heap[gb290]? = some (.cells #[.int .u64 t286, .int .u64 t287] 28 (0, 0))) := ⟨by (with_reducible repeat (first | refine blk_drewN ?_ _ | refine blk_drew ?_ | refine blk_alloc ?_ _)); refine blk_put (cs := #[.int .u64 t286, .int .u64 0]) ?_ 1 _ rfl; (with_reducible repeat (first | refine blk_drewN ?_ _ | refine blk_drew ?_ | refine blk_alloc ?_ _)); refine blk_put (cs := #[.int .u64 0, .int .u64 0]) ?_ 0 _ rfl; (with_reducible repeat (first | refine blk_drewN ?_ _ | refine blk_drew ?_ | refine blk_alloc ?_ _)); exact BK290.out⟩
       have n3_ : Aside0 (Below w.heap.size w ((w36.setCell ⟨gb290, 0, none⟩ (.int .u64 t286)).setCell ⟨gb290, 1, none⟩ (.int .u64 t287))) := ⟨bA⟩
       (try clear BK277); (try clear BK283); (try clear BK290); (try clear HB)
       generalize ((w36.setCell ⟨gb290, 0, none⟩ (.int .u64 t286)).setCell ⟨gb290, 1, none⟩ (.int .u64 t287)) = w40 at n0_ n1_ n2_ n3_ ⊢
       have BK277 := n0_; have BK283 := n1_; have BK290 := n2_; have HB := n3_; clear n0_ n1_ n2_ n3_; have n0_ := Aside0.mk (blk_drew BK277.out); have n1_ := Aside0.mk (blk_drew BK283.out); have n2_ := Aside0.mk (blk_drew BK290.out); have n3_ := Aside0.mk (below_drew1 HB.out); clear BK277 BK283 BK290 HB; have BK277 := n0_; have BK283 := n1_; have BK290 := n2_; have HB := n3_; clear n0_ n1_ n2_ n3_
       refine start_ (n := 48) (S := fun w' => w'.cell? ⟨gb283, 0, none⟩ = some (.int .u64 t279) ∧ w'.cell? ⟨gb283, 1, none⟩ = some (.int .u64 t280) ∧ w'.cell? ⟨gb290, 0, none⟩ = some (.int .u64 t286) ∧ w'.cell? ⟨gb290, 1, none⟩ = some (.int .u64 t287) ∧ w'.cell? ⟨gb277, 0, none⟩ = some (.int .u64 a0_0) ∧ w'.cell? ⟨gb277, 1, none⟩ = some (.int .u64 a0_1)) (ds := []) #[false, false, false, false, false, false, false, false, false, false, false, false, false, false, false, false, false, false, false, false, false, false, false, false, false, false, false, false, false, false, false, false, false, false, false, false, false, false, false, false, false, false, false, false, false, false, false, false] (by kernel_rfl) rfl rfl ⟨(blk_cell BK283.out 0).trans rfl, (blk_cell BK283.out 1).trans rfl, (blk_cell BK290.out 0).trans rfl, (blk_cell BK290.out 1).trans rfl, (blk_cell BK277.out 0).trans rfl, (blk_cell BK277.out 1).trans rfl⟩ (fun hHeld => ?_); refine with_tabW backfilllaw01_WideParts.tab4 backfilllaw01_WideParts.bits4 (fun HT_ HW_ => ?_)
       generalize w40.drew = w41 at BK277 BK283 BK290 HB hHeld ⊢
       refine pure_ (i := 0) (N := some 30) (v := ?_) (a' := ?_) #[true, false, false, false, false, false, false, false, false, false, false, false, false, false, false, false, false, false, false, false, false, false, false, false, false, false, false, false, false, false, false, false, false, false, false, false, false, false, false, false, false, false, false, false, false, false, false, false] rfl rfl (any_of HT_.out (by kernel_rfl)) (fun _ _ _ h => h) (Or.inl ⟨by rfl, ?_⟩) ?_ ?_
       rotate_left
       ·intro w'
        go_simp; with_reducible rfl
       rotate_left
       ·simp only [Act.put, List.setIfInBounds_toArray, List.set_cons_zero, List.set_cons_succ, i64_w, i32_w]
        rfl
       refine pure_ (i := 1) (N := some 31) (v := ?_) (a' := ?_) #[true, true, false, false, false, false, false, false, false, false, false, false, false, false, false, false, false, false, false, false, false, false, false, false, false, false, false, false, false, false, false, false, false, false, false, false, false, false, false, false, false, false, false, false, false, false, false, false] rfl rfl (any_of HT_.out (by kernel_rfl)) (fun _ _ _ h => h) (Or.inl ⟨by rfl, ?_⟩) ?_ ?_
       rotate_left
       ·intro w'
        go_simp; with_reducible rfl
       rotate_left
       ·simp only [Act.put, List.setIfInBounds_toArray, List.set_cons_zero, List.set_cons_succ, i64_w, i32_w]
        rfl
       refine take_ (i := 2) (N := some 32) (v := ?_) (a' := ?_) #[true, true, true, false, false, false, false, false, false, false, false, false, false, false, false, false, false, false, false, false, false, false, false, false, false, false, false, false, false, false, false, false, false, false, false, false, false, false, false, false, false, false, false, false, false, false, false, false] rfl rfl (take_ofW HT_.out HW_.out (by kernel_rfl)) (fun _ _ _ h => h) (Or.inl ⟨by rfl, ?_⟩) hHeld ?_ ?_
       rotate_left
       ·rintro w' ⟨s0, s1, s2, s3, s4, s5⟩
        go_simp; with_reducible rfl
       rotate_left
       ·simp only [Act.put, List.setIfInBounds_toArray, List.set_cons_zero, List.set_cons_succ, i64_w, i32_w]
        rfl
       refine take_ (i := 3) (N := some 33) (v := ?_) (a' := ?_) #[true, true, true, true, false, false, false, false, false, false, false, false, false, false, false, false, false, false, false, false, false, false, false, false, false, false, false, false, false, false, false, false, false, false, false, false, false, false, false, false, false, false, false, false, false, false, false, false] rfl rfl (take_ofW HT_.out HW_.out (by kernel_rfl)) (fun _ _ _ h => h) (Or.inl ⟨by rfl, ?_⟩) hHeld ?_ ?_
       rotate_left
       ·rintro w' ⟨s0, s1, s2, s3, s4, s5⟩
        go_simp; with_reducible rfl
       rotate_left
       ·simp only [Act.put, List.setIfInBounds_toArray, List.set_cons_zero, List.set_cons_succ, i64_w, i32_w]
        rfl
       refine one_ (i := 4) (N := some 34) #[true, true, true, true, true, false, false, false, false, false, false, false, false, false, false, false, false, false, false, false, false, false, false, false, false, false, false, false, false, false, false, false, false, false, false, false, false, false, false, false, false, false, false, false, false, false, false, false] rfl rfl (one_of HT_.out (by kernel_rfl)) (by decide) (fun K hK => ?_)
       refine goes_ Try.func17 (by kernel_rfl) rfl #[.agg #[.int .u64 t286, .int .u64 t287]] (by rfl) rfl rfl aA ?_
       with_reducible refine (backfilllaw01_num.calls t286 t287 t291 t292 _ A9.out).mono ?_
       rintro e w42 ⟨rfl, hb⟩
       refine ⟨_, rfl, ?_⟩; have n0_ := Aside0.mk (blk_below (g := gb277) (o := .cells #[.int .u64 a0_0, .int .u64 a0_1] 25 (0, 0)) kA hb); have n1_ := Aside0.mk (blk_below (g := gb283) (o := .cells #[.int .u64 t279, .int .u64 t280] 25 (0, 0)) kA hb); have n2_ := Aside0.mk (blk_below (g := gb290) (o := .cells #[.int .u64 t286, .int .u64 t287] 28 (0, 0)) kA hb); have n3_ := Aside0.mk (below_step bA hb); clear BK277 BK283 BK290 HB; have BK277 := n0_; have BK283 := n1_; have BK290 := n2_; have HB := n3_; clear n0_ n1_ n2_ n3_; (try clear hb)
       refine hK.out _ _ ⟨(blk_cell BK283.out 0).trans rfl, (blk_cell BK283.out 1).trans rfl, (blk_cell BK290.out 0).trans rfl, (blk_cell BK290.out 1).trans rfl, (blk_cell BK277.out 0).trans rfl, (blk_cell BK277.out 1).trans rfl⟩ (fun hHeld => ?_)
       clear hK K
       refine norm_ (a' := ?_) ?_ ?_
       rotate_left
       ·show Act.put _ (some 34) _ = _
        simp only [Act.put, List.setIfInBounds_toArray, List.set_cons_zero, List.set_cons_succ, i64_w, i32_w]
        rfl
       refine pure_ (i := 5) (N := some 35) (v := ?_) (a' := ?_) #[true, true, true, true, true, true, false, false, false, false, false, false, false, false, false, false, false, false, false, false, false, false, false, false, false, false, false, false, false, false, false, false, false, false, false, false, false, false, false, false, false, false, false, false, false, false, false, false] rfl rfl (any_of HT_.out (by kernel_rfl)) (fun _ _ _ h => h) (Or.inl ⟨by rfl, ?_⟩) ?_ ?_
       rotate_left
       ·intro w'
        go_simp; with_reducible rfl
       rotate_left
       ·simp only [Act.put, List.setIfInBounds_toArray, List.set_cons_zero, List.set_cons_succ, i64_w, i32_w]
        rfl
       refine pure_ (i := 6) (N := some 36) (v := ?_) (a' := ?_) #[true, true, true, true, true, true, true, false, false, false, false, false, false, false, false, false, false, false, false, false, false, false, false, false, false, false, false, false, false, false, false, false, false, false, false, false, false, false, false, false, false, false, false, false, false, false, false, false] rfl rfl (any_of HT_.out (by kernel_rfl)) (fun _ _ _ h => h) (Or.inl ⟨by rfl, ?_⟩) ?_ ?_
       rotate_left
       ·intro w'
        go_simp; with_reducible rfl
       rotate_left
       ·simp only [Act.put, List.setIfInBounds_toArray, List.set_cons_zero, List.set_cons_succ, i64_w, i32_w]
        rfl
       refine pure_ (i := 7) (N := some 37) (v := ?_) (a' := ?_) #[true, true, true, true, true, true, true, true, false, false, false, false, false, false, false, false, false, false, false, false, false, false, false, false, false, false, false, false, false, false, false, false, false, false, false, false, false, false, false, false, false, false, false, false, false, false, false, false] rfl rfl (any_of HT_.out (by kernel_rfl)) (fun _ _ _ h => h) (Or.inl ⟨by rfl, ?_⟩) ?_ ?_
       rotate_left
       ·intro w'
        go_simp; with_reducible rfl
       rotate_left
       ·simp only [Act.put, List.setIfInBounds_toArray, List.set_cons_zero, List.set_cons_succ, i64_w, i32_w]
        rfl
       refine pure_ (i := 8) (N := some 38) (v := ?_) (a' := ?_) #[true, true, true, true, true, true, true, true, true, false, false, false, false, false, false, false, false, false, false, false, false, false, false, false, false, false, false, false, false, false, false, false, false, false, false, false, false, false, false, false, false, false, false, false, false, false, false, false] rfl rfl (any_of HT_.out (by kernel_rfl)) (fun _ _ _ h => h) (Or.inl ⟨by rfl, ?_⟩) ?_ ?_
       rotate_left
       ·intro w'
        go_simp; with_reducible rfl
       rotate_left
       ·simp only [Act.put, List.setIfInBounds_toArray, List.set_cons_zero, List.set_cons_succ, i64_w, i32_w]
        rfl
       refine pure_ (i := 9) (N := some 39) (v := ?_) (a' := ?_) #[true, true, true, true, true, true, true, true, true, true, false, false, false, false, false, false, false, false, false, false, false, false, false, false, false, false, false, false, false, false, false, false, false, false, false, false, false, false, false, false, false, false, false, false, false, false, false, false] rfl rfl (any_of HT_.out (by kernel_rfl)) (fun _ _ _ h => h) (Or.inl ⟨by rfl, ?_⟩) ?_ ?_
       rotate_left
       ·intro w'
        go_simp; with_reducible rfl
       rotate_left
       ·simp only [Act.put, List.setIfInBounds_toArray, List.set_cons_zero, List.set_cons_succ, i64_w, i32_w]
        rfl
       refine pure_ (i := 10) (N := some 40) (v := ?_) (a' := ?_) #[true, true, true, true, true, true, true, true, true, true, true, false, false, false, false, false, false, false, false, false, false, false, false, false, false, false, false, false, false, false, false, false, false, false, false, false, false, false, false, false, false, false, false, false, false, false, false, false] rfl rfl (any_of HT_.out (by kernel_rfl)) (fun _ _ _ h => h) (Or.inl ⟨by rfl, ?_⟩) ?_ ?_
       rotate_left
       ·intro w'
        go_simp; with_reducible rfl
       rotate_left
       ·simp only [Act.put, List.setIfInBounds_toArray, List.set_cons_zero, List.set_cons_succ, i64_w, i32_w]
        rfl
       refine pure_ (i := 11) (N := some 41) (v := ?_) (a' := ?_) #[true, true, true, true, true, true, true, true, true, true, true, true, false, false, false, false, false, false, false, false, false, false, false, false, false, false, false, false, false, false, false, false, false, false, false, false, false, false, false, false, false, false, false, false, false, false, false, false] rfl rfl (any_of HT_.out (by kernel_rfl)) (fun _ _ _ h => h) (Or.inl ⟨by rfl, ?_⟩) ?_ ?_
       rotate_left
       ·intro w'
        go_simp; with_reducible rfl
       rotate_left
       ·simp only [Act.put, List.setIfInBounds_toArray, List.set_cons_zero, List.set_cons_succ, i64_w, i32_w]
        rfl
       refine pure_ (i := 12) (N := some 42) (v := ?_) (a' := ?_) #[true, true, true, true, true, true, true, true, true, true, true, true, true, false, false, false, false, false, false, false, false, false, false, false, false, false, false, false, false, false, false, false, false, false, false, false, false, false, false, false, false, false, false, false, false, false, false, false] rfl rfl (any_of HT_.out (by kernel_rfl)) (fun _ _ _ h => h) (Or.inl ⟨by rfl, ?_⟩) ?_ ?_
       rotate_left
       ·intro w'
        go_simp; with_reducible rfl
       rotate_left
       ·simp only [Act.put, List.setIfInBounds_toArray, List.set_cons_zero, List.set_cons_succ, i64_w, i32_w]
        rfl
       refine pure_ (i := 13) (N := some 43) (v := ?_) (a' := ?_) #[true, true, true, true, true, true, true, true, true, true, true, true, true, true, false, false, false, false, false, false, false, false, false, false, false, false, false, false, false, false, false, false, false, false, false, false, false, false, false, false, false, false, false, false, false, false, false, false] rfl rfl (any_of HT_.out (by kernel_rfl)) (fun _ _ _ h => h) (Or.inl ⟨by rfl, ?_⟩) ?_ ?_
       rotate_left
       ·intro w'
        go_simp; with_reducible rfl
       rotate_left
       ·simp only [Act.put, List.setIfInBounds_toArray, List.set_cons_zero, List.set_cons_succ, i64_w, i32_w]
        rfl
       refine pure_ (i := 14) (N := some 44) (v := ?_) (a' := ?_) #[true, true, true, true, true, true, true, true, true, true, true, true, true, true, true, false, false, false, false, false, false, false, false, false, false, false, false, false, false, false, false, false, false, false, false, false, false, false, false, false, false, false, false, false, false, false, false, false] rfl rfl (any_of HT_.out (by kernel_rfl)) (fun _ _ _ h => h) (Or.inl ⟨by rfl, ?_⟩) ?_ ?_
       rotate_left
       ·intro w'
        go_simp; with_reducible rfl
       rotate_left
       ·simp only [Act.put, List.setIfInBounds_toArray, List.set_cons_zero, List.set_cons_succ, i64_w, i32_w]
        rfl
       refine pure_ (i := 15) (N := some 45) (v := ?_) (a' := ?_) #[true, true, true, true, true, true, true, true, true, true, true, true, true, true, true, true, false, false, false, false, false, false, false, false, false, false, false, false, false, false, false, false, false, false, false, false, false, false, false, false, false, false, false, false, false, false, false, false] rfl rfl (any_of HT_.out (by kernel_rfl)) (fun _ _ _ h => h) (Or.inl ⟨by rfl, ?_⟩) ?_ ?_
       rotate_left
       ·intro w'
        go_simp; with_reducible rfl
       rotate_left
       ·simp only [Act.put, List.setIfInBounds_toArray, List.set_cons_zero, List.set_cons_succ, i64_w, i32_w]
        rfl
       refine pure_ (i := 16) (N := some 46) (v := ?_) (a' := ?_) #[true, true, true, true, true, true, true, true, true, true, true, true, true, true, true, true, true, false, false, false, false, false, false, false, false, false, false, false, false, false, false, false, false, false, false, false, false, false, false, false, false, false, false, false, false, false, false, false] rfl rfl (any_of HT_.out (by kernel_rfl)) (fun _ _ _ h => h) (Or.inl ⟨by rfl, ?_⟩) ?_ ?_
       rotate_left
       ·intro w'
        go_simp; with_reducible rfl
       rotate_left
       ·simp only [Act.put, List.setIfInBounds_toArray, List.set_cons_zero, List.set_cons_succ, i64_w, i32_w]
        rfl
       refine pure_ (i := 17) (N := some 47) (v := ?_) (a' := ?_) #[true, true, true, true, true, true, true, true, true, true, true, true, true, true, true, true, true, true, false, false, false, false, false, false, false, false, false, false, false, false, false, false, false, false, false, false, false, false, false, false, false, false, false, false, false, false, false, false] rfl rfl (any_of HT_.out (by kernel_rfl)) (fun _ _ _ h => h) (Or.inl ⟨by rfl, ?_⟩) ?_ ?_
       rotate_left
       ·intro w'
        go_simp; with_reducible rfl
       rotate_left
       ·simp only [Act.put, List.setIfInBounds_toArray, List.set_cons_zero, List.set_cons_succ, i64_w, i32_w]
        rfl
       refine pure_ (i := 19) (N := some 49) (v := ?_) (a' := ?_) #[true, true, true, true, true, true, true, true, true, true, true, true, true, true, true, true, true, true, false, true, false, false, false, false, false, false, false, false, false, false, false, false, false, false, false, false, false, false, false, false, false, false, false, false, false, false, false, false] rfl rfl (any_of HT_.out (by kernel_rfl)) (fun _ _ _ h => h) (Or.inl ⟨by rfl, ?_⟩) ?_ ?_
       rotate_left
       ·intro w'
        go_simp; with_reducible rfl
       rotate_left
       ·simp only [Act.put, List.setIfInBounds_toArray, List.set_cons_zero, List.set_cons_succ, i64_w, i32_w]
        rfl
       refine pure_ (i := 23) (N := some 53) (v := ?_) (a' := ?_) #[true, true, true, true, true, true, true, true, true, true, true, true, true, true, true, true, true, true, false, true, false, false, false, true, false, false, false, false, false, false, false, false, false, false, false, false, false, false, false, false, false, false, false, false, false, false, false, false] rfl rfl (any_of HT_.out (by kernel_rfl)) (fun _ _ _ h => h) (Or.inl ⟨by rfl, ?_⟩) ?_ ?_
       rotate_left
       ·intro w'
        go_simp; with_reducible rfl
       rotate_left
       ·simp only [Act.put, List.setIfInBounds_toArray, List.set_cons_zero, List.set_cons_succ, i64_w, i32_w]
        rfl
       refine take_ (i := 18) (N := some 48) (v := ?_) (a' := ?_) #[true, true, true, true, true, true, true, true, true, true, true, true, true, true, true, true, true, true, true, true, false, false, false, true, false, false, false, false, false, false, false, false, false, false, false, false, false, false, false, false, false, false, false, false, false, false, false, false] rfl rfl (take_ofW HT_.out HW_.out (by kernel_rfl)) (fun _ _ _ h => h) (Or.inl ⟨by rfl, ?_⟩) hHeld ?_ ?_
       rotate_left
       ·rintro w' ⟨s0, s1, s2, s3, s4, s5⟩
        go_simp; with_reducible rfl
       rotate_left
       ·simp only [Act.put, List.setIfInBounds_toArray, List.set_cons_zero, List.set_cons_succ, i64_w, i32_w]
        rfl
       refine take_ (i := 21) (N := some 51) (v := ?_) (a' := ?_) #[true, true, true, true, true, true, true, true, true, true, true, true, true, true, true, true, true, true, true, true, false, true, false, true, false, false, false, false, false, false, false, false, false, false, false, false, false, false, false, false, false, false, false, false, false, false, false, false] rfl rfl (take_ofW HT_.out HW_.out (by kernel_rfl)) (fun _ _ _ h => h) (Or.inl ⟨by rfl, ?_⟩) hHeld ?_ ?_
       rotate_left
       ·rintro w' ⟨s0, s1, s2, s3, s4, s5⟩
        go_simp; with_reducible rfl
       rotate_left
       ·simp only [Act.put, List.setIfInBounds_toArray, List.set_cons_zero, List.set_cons_succ, i64_w, i32_w]
        rfl
       refine one_ (i := 20) (N := some 50) #[true, true, true, true, true, true, true, true, true, true, true, true, true, true, true, true, true, true, true, true, true, true, false, true, false, false, false, false, false, false, false, false, false, false, false, false, false, false, false, false, false, false, false, false, false, false, false, false] rfl rfl (one_of HT_.out (by kernel_rfl)) (by decide) (fun K hK => ?_)
       refine goes_ Try.func18 (by kernel_rfl) rfl #[.agg #[.int .u64 a0_0, .int .u64 a0_1], .int .i64 a2] (by rfl) rfl rfl aA ?_
       with_reducible refine (wide_Shl.calls a0_0 a0_1 a2 t293 t294 _ A13.out).mono ?_
       rintro e w43 ⟨rfl, hb⟩
       refine ⟨_, rfl, ?_⟩; have n0_ := Aside0.mk (blk_below (g := gb277) (o := .cells #[.int .u64 a0_0, .int .u64 a0_1] 25 (0, 0)) kA hb); have n1_ := Aside0.mk (blk_below (g := gb283) (o := .cells #[.int .u64 t279, .int .u64 t280] 25 (0, 0)) kA hb); have n2_ := Aside0.mk (blk_below (g := gb290) (o := .cells #[.int .u64 t286, .int .u64 t287] 28 (0, 0)) kA hb); have n3_ := Aside0.mk (below_step bA hb); clear BK277 BK283 BK290 HB; have BK277 := n0_; have BK283 := n1_; have BK290 := n2_; have HB := n3_; clear n0_ n1_ n2_ n3_; (try clear hb)
       refine hK.out _ _ ⟨(blk_cell BK283.out 0).trans rfl, (blk_cell BK283.out 1).trans rfl, (blk_cell BK290.out 0).trans rfl, (blk_cell BK290.out 1).trans rfl, (blk_cell BK277.out 0).trans rfl, (blk_cell BK277.out 1).trans rfl⟩ (fun hHeld => ?_)
       clear hK K
       refine norm_ (a' := ?_) ?_ ?_
       rotate_left
       ·show Act.put _ (some 50) _ = _
        simp only [Act.put, List.setIfInBounds_toArray, List.set_cons_zero, List.set_cons_succ, i64_w, i32_w]
        rfl
       refine one_ (i := 22) (N := some 52) #[true, true, true, true, true, true, true, true, true, true, true, true, true, true, true, true, true, true, true, true, true, true, true, true, false, false, false, false, false, false, false, false, false, false, false, false, false, false, false, false, false, false, false, false, false, false, false, false] rfl rfl (one_of HT_.out (by kernel_rfl)) (by decide) (fun K hK => ?_)
       refine goes_ Try.func16 (by kernel_rfl) rfl #[.agg #[.int .u64 a0_0, .int .u64 a0_1]] (by rfl) rfl rfl aA ?_
       with_reducible refine (backfilllaw01_ref.calls a0_0 a0_1 t295 t296 _ A14.out).mono ?_
       rintro e w44 ⟨rfl, hb⟩
       refine ⟨_, rfl, ?_⟩; have n0_ := Aside0.mk (blk_below (g := gb277) (o := .cells #[.int .u64 a0_0, .int .u64 a0_1] 25 (0, 0)) kA hb); have n1_ := Aside0.mk (blk_below (g := gb283) (o := .cells #[.int .u64 t279, .int .u64 t280] 25 (0, 0)) kA hb); have n2_ := Aside0.mk (blk_below (g := gb290) (o := .cells #[.int .u64 t286, .int .u64 t287] 28 (0, 0)) kA hb); have n3_ := Aside0.mk (below_step bA hb); clear BK277 BK283 BK290 HB; have BK277 := n0_; have BK283 := n1_; have BK290 := n2_; have HB := n3_; clear n0_ n1_ n2_ n3_; (try clear hb)
       refine hK.out _ _ ⟨(blk_cell BK283.out 0).trans rfl, (blk_cell BK283.out 1).trans rfl, (blk_cell BK290.out 0).trans rfl, (blk_cell BK290.out 1).trans rfl, (blk_cell BK277.out 0).trans rfl, (blk_cell BK277.out 1).trans rfl⟩ (fun hHeld => ?_)
       clear hK K
       refine norm_ (a' := ?_) ?_ ?_
       rotate_left
       ·show Act.put _ (some 52) _ = _
        simp only [Act.put, List.setIfInBounds_toArray, List.set_cons_zero, List.set_cons_succ, i64_w, i32_w]
        rfl
       refine one_ (i := 24) (N := some 54) #[true, true, true, true, true, true, true, true, true, true, true, true, true, true, true, true, true, true, true, true, true, true, true, true, true, false, false, false, false, false, false, false, false, false, false, false, false, false, false, false, false, false, false, false, false, false, false, false] rfl rfl (one_of HT_.out (by kernel_rfl)) (by decide) (fun K hK => ?_)
       refine goes_ Try.func19 (by kernel_rfl) rfl #[.agg #[.int .u64 t295, .int .u64 t296], .int .i64 a2] (by rfl) rfl rfl aA ?_
       with_reducible refine (backfillref01_Shl.calls t295 t296 a2 t297 t298 _ A15.out).mono ?_
       rintro e w45 ⟨rfl, hb⟩
       refine ⟨_, rfl, ?_⟩; have n0_ := Aside0.mk (blk_below (g := gb277) (o := .cells #[.int .u64 a0_0, .int .u64 a0_1] 25 (0, 0)) kA hb); have n1_ := Aside0.mk (blk_below (g := gb283) (o := .cells #[.int .u64 t279, .int .u64 t280] 25 (0, 0)) kA hb); have n2_ := Aside0.mk (blk_below (g := gb290) (o := .cells #[.int .u64 t286, .int .u64 t287] 28 (0, 0)) kA hb); have n3_ := Aside0.mk (below_step bA hb); clear BK277 BK283 BK290 HB; have BK277 := n0_; have BK283 := n1_; have BK290 := n2_; have HB := n3_; clear n0_ n1_ n2_ n3_; (try clear hb)
       refine hK.out _ _ ⟨(blk_cell BK283.out 0).trans rfl, (blk_cell BK283.out 1).trans rfl, (blk_cell BK290.out 0).trans rfl, (blk_cell BK290.out 1).trans rfl, (blk_cell BK277.out 0).trans rfl, (blk_cell BK277.out 1).trans rfl⟩ (fun hHeld => ?_)
       clear hK K
       refine norm_ (a' := ?_) ?_ ?_
       rotate_left
       ·show Act.put _ (some 54) _ = _
        simp only [Act.put, List.setIfInBounds_toArray, List.set_cons_zero, List.set_cons_succ, i64_w, i32_w]
        rfl
       refine one_ (i := 25) (N := some 55) #[true, true, true, true, true, true, true, true, true, true, true, true, true, true, true, true, true, true, true, true, true, true, true, true, true, true, false, false, false, false, false, false, false, false, false, false, false, false, false, false, false, false, false, false, false, false, false, false] rfl rfl (one_of HT_.out (by kernel_rfl)) (by decide) (fun K hK => ?_)
       refine goes_ Try.func17 (by kernel_rfl) rfl #[.agg #[.int .u64 t297, .int .u64 t298]] (by rfl) rfl rfl aA ?_
       with_reducible refine (backfilllaw01_num.calls t297 t298 t299 t300 _ A16.out).mono ?_
       rintro e w46 ⟨rfl, hb⟩
       refine ⟨_, rfl, ?_⟩; have n0_ := Aside0.mk (blk_below (g := gb277) (o := .cells #[.int .u64 a0_0, .int .u64 a0_1] 25 (0, 0)) kA hb); have n1_ := Aside0.mk (blk_below (g := gb283) (o := .cells #[.int .u64 t279, .int .u64 t280] 25 (0, 0)) kA hb); have n2_ := Aside0.mk (blk_below (g := gb290) (o := .cells #[.int .u64 t286, .int .u64 t287] 28 (0, 0)) kA hb); have n3_ := Aside0.mk (below_step bA hb); clear BK277 BK283 BK290 HB; have BK277 := n0_; have BK283 := n1_; have BK290 := n2_; have HB := n3_; clear n0_ n1_ n2_ n3_; (try clear hb)
       refine hK.out _ _ ⟨(blk_cell BK283.out 0).trans rfl, (blk_cell BK283.out 1).trans rfl, (blk_cell BK290.out 0).trans rfl, (blk_cell BK290.out 1).trans rfl, (blk_cell BK277.out 0).trans rfl, (blk_cell BK277.out 1).trans rfl⟩ (fun hHeld => ?_)
       clear hK K
       refine norm_ (a' := ?_) ?_ ?_
       rotate_left
       ·show Act.put _ (some 55) _ = _
        simp only [Act.put, List.setIfInBounds_toArray, List.set_cons_zero, List.set_cons_succ, i64_w, i32_w]
        rfl
       refine pure_ (i := 26) (N := some 56) (v := ?_) (a' := ?_) #[true, true, true, true, true, true, true, true, true, true, true, true, true, true, true, true, true, true, true, true, true, true, true, true, true, true, true, false, false, false, false, false, false, false, false, false, false, false, false, false, false, false, false, false, false, false, false, false] rfl rfl (any_of HT_.out (by kernel_rfl)) (fun _ _ _ h => h) (Or.inl ⟨by rfl, ?_⟩) ?_ ?_
       rotate_left
       ·intro w'
        go_simp; with_reducible rfl
       rotate_left
       ·simp only [Act.put, List.setIfInBounds_toArray, List.set_cons_zero, List.set_cons_succ, i64_w, i32_w]
        rfl
       refine pure_ (i := 27) (N := some 57) (v := ?_) (a' := ?_) #[true, true, true, true, true, true, true, true, true, true, true, true, true, true, true, true, true, true, true, true, true, true, true, true, true, true, true, true, false, false, false, false, false, false, false, false, false, false, false, false, false, false, false, false, false, false, false, false] rfl rfl (any_of HT_.out (by kernel_rfl)) (fun _ _ _ h => h) (Or.inl ⟨by rfl, ?_⟩) ?_ ?_
       rotate_left
       ·intro w'
        go_simp; with_reducible rfl
       rotate_left
       ·simp only [Act.put, List.setIfInBounds_toArray, List.set_cons_zero, List.set_cons_succ, i64_w, i32_w]
        rfl
       refine pure_ (i := 28) (N := some 58) (v := ?_) (a' := ?_) #[true, true, true, true, true, true, true, true, true, true, true, true, true, true, true, true, true, true, true, true, true, true, true, true, true, true, true, true, true, false, false, false, false, false, false, false, false, false, false, false, false, false, false, false, false, false, false, false] rfl rfl (any_of HT_.out (by kernel_rfl)) (fun _ _ _ h => h) (Or.inl ⟨by rfl, ?_⟩) ?_ ?_
       rotate_left
       ·intro w'
        go_simp; with_reducible rfl
       rotate_left
       ·simp only [Act.put, List.setIfInBounds_toArray, List.set_cons_zero, List.set_cons_succ, i64_w, i32_w]
        rfl
       refine pure_ (i := 30) (N := some 60) (v := ?_) (a' := ?_) #[true, true, true, true, true, true, true, true, true, true, true, true, true, true, true, true, true, true, true, true, true, true, true, true, true, true, true, true, true, false, true, false, false, false, false, false, false, false, false, false, false, false, false, false, false, false, false, false] rfl rfl (any_of HT_.out (by kernel_rfl)) (fun _ _ _ h => h) (Or.inl ⟨by rfl, ?_⟩) ?_ ?_
       rotate_left
       ·intro w'
        go_simp; with_reducible rfl
       rotate_left
       ·simp only [Act.put, List.setIfInBounds_toArray, List.set_cons_zero, List.set_cons_succ, i64_w, i32_w]
        rfl
       refine pure_ (i := 34) (N := some 64) (v := ?_) (a' := ?_) #[true, true, true, true, true, true, true, true, true, true, true, true, true, true, true, true, true, true, true, true, true, true, true, true, true, true, true, true, true, false, true, false, false, false, true, false, false, false, false, false, false, false, false, false, false, false, false, false] rfl rfl (any_of HT_.out (by kernel_rfl)) (fun _ _ _ h => h) (Or.inl ⟨by rfl, ?_⟩) ?_ ?_
       rotate_left
       ·intro w'
        go_simp; with_reducible rfl
       rotate_left
       ·simp only [Act.put, List.setIfInBounds_toArray, List.set_cons_zero, List.set_cons_succ, i64_w, i32_w]
        rfl
       refine take_ (i := 29) (N := some 59) (v := ?_) (a' := ?_) #[true, true, true, true, true, true, true, true, true, true, true, true, true, true, true, true, true, true, true, true, true, true, true, true, true, true, true, true, true, true, true, false, false, false, true, false, false, false, false, false, false, false, false, false, false, false, false, false] rfl rfl (take_ofW HT_.out HW_.out (by kernel_rfl)) (fun _ _ _ h => h) (Or.inl ⟨by rfl, ?_⟩) hHeld ?_ ?_
       rotate_left
       ·rintro w' ⟨s0, s1, s2, s3, s4, s5⟩
        go_simp; with_reducible rfl
       rotate_left
       ·simp only [Act.put, List.setIfInBounds_toArray, List.set_cons_zero, List.set_cons_succ, i64_w, i32_w]
        rfl
       refine take_ (i := 32) (N := some 62) (v := ?_) (a' := ?_) #[true, true, true, true, true, true, true, true, true, true, true, true, true, true, true, true, true, true, true, true, true, true, true, true, true, true, true, true, true, true, true, false, true, false, true, false, false, false, false, false, false, false, false, false, false, false, false, false] rfl rfl (take_ofW HT_.out HW_.out (by kernel_rfl)) (fun _ _ _ h => h) (Or.inl ⟨by rfl, ?_⟩) hHeld ?_ ?_
       rotate_left
       ·rintro w' ⟨s0, s1, s2, s3, s4, s5⟩
        go_simp; with_reducible rfl
       rotate_left
       ·simp only [Act.put, List.setIfInBounds_toArray, List.set_cons_zero, List.set_cons_succ, i64_w, i32_w]
        rfl
       refine one_ (i := 31) (N := some 61) #[true, true, true, true, true, true, true, true, true, true, true, true, true, true, true, true, true, true, true, true, true, true, true, true, true, true, true, true, true, true, true, true, true, false, true, false, false, false, false, false, false, false, false, false, false, false, false, false] rfl rfl (one_of HT_.out (by kernel_rfl)) (by decide) (fun K hK => ?_)
       refine goes_ Try.func20 (by kernel_rfl) rfl #[.agg #[.int .u64 a0_0, .int .u64 a0_1], .int .i64 a2] (by rfl) rfl rfl aA ?_
       with_reducible refine (wide_Shr.calls a0_0 a0_1 a2 t301 t302 _ A18.out).mono ?_
       rintro e w47 ⟨rfl, hb⟩
       refine ⟨_, rfl, ?_⟩; have n0_ := Aside0.mk (blk_below (g := gb277) (o := .cells #[.int .u64 a0_0, .int .u64 a0_1] 25 (0, 0)) kA hb); have n1_ := Aside0.mk (blk_below (g := gb283) (o := .cells #[.int .u64 t279, .int .u64 t280] 25 (0, 0)) kA hb); have n2_ := Aside0.mk (blk_below (g := gb290) (o := .cells #[.int .u64 t286, .int .u64 t287] 28 (0, 0)) kA hb); have n3_ := Aside0.mk (below_step bA hb); clear BK277 BK283 BK290 HB; have BK277 := n0_; have BK283 := n1_; have BK290 := n2_; have HB := n3_; clear n0_ n1_ n2_ n3_; (try clear hb)
       refine hK.out _ _ ⟨(blk_cell BK283.out 0).trans rfl, (blk_cell BK283.out 1).trans rfl, (blk_cell BK290.out 0).trans rfl, (blk_cell BK290.out 1).trans rfl, (blk_cell BK277.out 0).trans rfl, (blk_cell BK277.out 1).trans rfl⟩ (fun hHeld => ?_)
       clear hK K
       refine norm_ (a' := ?_) ?_ ?_
       rotate_left
       ·show Act.put _ (some 61) _ = _
        simp only [Act.put, List.setIfInBounds_toArray, List.set_cons_zero, List.set_cons_succ, i64_w, i32_w]
        rfl
       refine one_ (i := 33) (N := some 63) #[true, true, true, true, true, true, true, true, true, true, true, true, true, true, true, true, true, true, true, true, true, true, true, true, true, true, true, true, true, true, true, true, true, true, true, false, false, false, false, false, false, false, false, false, false, false, false, false] rfl rfl (one_of HT_.out (by kernel_rfl)) (by decide) (fun K hK => ?_)
       refine goes_ Try.func16 (by kernel_rfl) rfl #[.agg #[.int .u64 a0_0, .int .u64 a0_1]] (by rfl) rfl rfl aA ?_
       with_reducible refine (backfilllaw01_ref.calls a0_0 a0_1 t303 t304 _ A19.out).mono ?_
       rintro e w48 ⟨rfl, hb⟩
       refine ⟨_, rfl, ?_⟩; have n0_ := Aside0.mk (blk_below (g := gb277) (o := .cells #[.int .u64 a0_0, .int .u64 a0_1] 25 (0, 0)) kA hb); have n1_ := Aside0.mk (blk_below (g := gb283) (o := .cells #[.int .u64 t279, .int .u64 t280] 25 (0, 0)) kA hb); have n2_ := Aside0.mk (blk_below (g := gb290) (o := .cells #[.int .u64 t286, .int .u64 t287] 28 (0, 0)) kA hb); have n3_ := Aside0.mk (below_step bA hb); clear BK277 BK283 BK290 HB; have BK277 := n0_; have BK283 := n1_; have BK290 := n2_; have HB := n3_; clear n0_ n1_ n2_ n3_; (try clear hb)
       refine hK.out _ _ ⟨(blk_cell BK283.out 0).trans rfl, (blk_cell BK283.out 1).trans rfl, (blk_cell BK290.out 0).trans rfl, (blk_cell BK290.out 1).trans rfl, (blk_cell BK277.out 0).trans rfl, (blk_cell BK277.out 1).trans rfl⟩ (fun hHeld => ?_)
       clear hK K
       refine norm_ (a' := ?_) ?_ ?_
       rotate_left
       ·show Act.put _ (some 63) _ = _
        simp only [Act.put, List.setIfInBounds_toArray, List.set_cons_zero, List.set_cons_succ, i64_w, i32_w]
        rfl
       refine one_ (i := 35) (N := some 65) #[true, true, true, true, true, true, true, true, true, true, true, true, true, true, true, true, true, true, true, true, true, true, true, true, true, true, true, true, true, true, true, true, true, true, true, true, false, false, false, false, false, false, false, false, false, false, false, false] rfl rfl (one_of HT_.out (by kernel_rfl)) (by decide) (fun K hK => ?_)
       refine goes_ Try.func21 (by kernel_rfl) rfl #[.agg #[.int .u64 t303, .int .u64 t304], .int .i64 a2] (by rfl) rfl rfl aA ?_
       with_reducible refine (backfillref01_Shr.calls t303 t304 a2 t305 t306 _ A20.out).mono ?_
       rintro e w49 ⟨rfl, hb⟩
       refine ⟨_, rfl, ?_⟩; have n0_ := Aside0.mk (blk_below (g := gb277) (o := .cells #[.int .u64 a0_0, .int .u64 a0_1] 25 (0, 0)) kA hb); have n1_ := Aside0.mk (blk_below (g := gb283) (o := .cells #[.int .u64 t279, .int .u64 t280] 25 (0, 0)) kA hb); have n2_ := Aside0.mk (blk_below (g := gb290) (o := .cells #[.int .u64 t286, .int .u64 t287] 28 (0, 0)) kA hb); have n3_ := Aside0.mk (below_step bA hb); clear BK277 BK283 BK290 HB; have BK277 := n0_; have BK283 := n1_; have BK290 := n2_; have HB := n3_; clear n0_ n1_ n2_ n3_; (try clear hb)
       refine hK.out _ _ ⟨(blk_cell BK283.out 0).trans rfl, (blk_cell BK283.out 1).trans rfl, (blk_cell BK290.out 0).trans rfl, (blk_cell BK290.out 1).trans rfl, (blk_cell BK277.out 0).trans rfl, (blk_cell BK277.out 1).trans rfl⟩ (fun hHeld => ?_)
       clear hK K
       refine norm_ (a' := ?_) ?_ ?_
       rotate_left
       ·show Act.put _ (some 65) _ = _
        simp only [Act.put, List.setIfInBounds_toArray, List.set_cons_zero, List.set_cons_succ, i64_w, i32_w]
        rfl
       refine one_ (i := 36) (N := some 66) #[true, true, true, true, true, true, true, true, true, true, true, true, true, true, true, true, true, true, true, true, true, true, true, true, true, true, true, true, true, true, true, true, true, true, true, true, true, false, false, false, false, false, false, false, false, false, false, false] rfl rfl (one_of HT_.out (by kernel_rfl)) (by decide) (fun K hK => ?_)
       refine goes_ Try.func17 (by kernel_rfl) rfl #[.agg #[.int .u64 t305, .int .u64 t306]] (by rfl) rfl rfl aA ?_
       with_reducible refine (backfilllaw01_num.calls t305 t306 t307 t308 _ A21.out).mono ?_
       rintro e w50 ⟨rfl, hb⟩
       refine ⟨_, rfl, ?_⟩; have n0_ := Aside0.mk (blk_below (g := gb277) (o := .cells #[.int .u64 a0_0, .int .u64 a0_1] 25 (0, 0)) kA hb); have n1_ := Aside0.mk (blk_below (g := gb283) (o := .cells #[.int .u64 t279, .int .u64 t280] 25 (0, 0)) kA hb); have n2_ := Aside0.mk (blk_below (g := gb290) (o := .cells #[.int .u64 t286, .int .u64 t287] 28 (0, 0)) kA hb); have n3_ := Aside0.mk (below_step bA hb); clear BK277 BK283 BK290 HB; have BK277 := n0_; have BK283 := n1_; have BK290 := n2_; have HB := n3_; clear n0_ n1_ n2_ n3_; (try clear hb)
       refine hK.out _ _ ⟨(blk_cell BK283.out 0).trans rfl, (blk_cell BK283.out 1).trans rfl, (blk_cell BK290.out 0).trans rfl, (blk_cell BK290.out 1).trans rfl, (blk_cell BK277.out 0).trans rfl, (blk_cell BK277.out 1).trans rfl⟩ (fun hHeld => ?_)
       clear hK K
       refine norm_ (a' := ?_) ?_ ?_
       rotate_left
       ·show Act.put _ (some 66) _ = _
        simp only [Act.put, List.setIfInBounds_toArray, List.set_cons_zero, List.set_cons_succ, i64_w, i32_w]
        rfl
       refine pure_ (i := 37) (N := some 67) (v := ?_) (a' := ?_) #[true, true, true, true, true, true, true, true, true, true, true, true, true, true, true, true, true, true, true, true, true, true, true, true, true, true, true, true, true, true, true, true, true, true, true, true, true, true, false, false, false, false, false, false, false, false, false, false] rfl rfl (any_of HT_.out (by kernel_rfl)) (fun _ _ _ h => h) (Or.inl ⟨by rfl, ?_⟩) ?_ ?_
       rotate_left
       ·intro w'
        go_simp; with_reducible rfl
       rotate_left
       ·simp only [Act.put, List.setIfInBounds_toArray, List.set_cons_zero, List.set_cons_succ, i64_w, i32_w]
        rfl
       refine pure_ (i := 38) (N := some 68) (v := ?_) (a' := ?_) #[true, true, true, true, true, true, true, true, true, true, true, true, true, true, true, true, true, true, true, true, true, true, true, true, true, true, true, true, true, true, true, true, true, true, true, true, true, true, true, false, false, false, false, false, false, false, false, false] rfl rfl (any_of HT_.out (by kernel_rfl)) (fun _ _ _ h => h) (Or.inl ⟨by rfl, ?_⟩) ?_ ?_
       rotate_left
       ·intro w'
        go_simp; with_reducible rfl
       rotate_left
       ·simp only [Act.put, List.setIfInBounds_toArray, List.set_cons_zero, List.set_cons_succ, i64_w, i32_w]
        rfl
       refine pure_ (i := 39) (N := some 69) (v := ?_) (a' := ?_) #[true, true, true, true, true, true, true, true, true, true, true, true, true, true, true, true, true, true, true, true, true, true, true, true, true, true, true, true, true, true, true, true, true, true, true, true, true, true, true, true, false, false, false, false, false, false, false, false] rfl rfl (any_of HT_.out (by kernel_rfl)) (fun _ _ _ h => h) (Or.inl ⟨by rfl, ?_⟩) ?_ ?_
       rotate_left
       ·intro w'
        go_simp; with_reducible rfl
       rotate_left
       ·simp only [Act.put, List.setIfInBounds_toArray, List.set_cons_zero, List.set_cons_succ, i64_w, i32_w]
        rfl
       refine take_ (i := 40) (N := some 70) (v := ?_) (a' := ?_) #[true, true, true, true, true, true, true, true, true, true, true, true, true, true, true, true, true, true, true, true, true, true, true, true, true, true, true, true, true, true, true, true, true, true, true, true, true, true, true, true, true, false, false, false, false, false, false, false] rfl rfl (take_ofW HT_.out HW_.out (by kernel_rfl)) (fun _ _ _ h => h) (Or.inl ⟨by rfl, ?_⟩) hHeld ?_ ?_
       rotate_left
       ·rintro w' ⟨s0, s1, s2, s3, s4, s5⟩
        go_simp; with_reducible rfl
       rotate_left
       ·simp only [Act.put, List.setIfInBounds_toArray, List.set_cons_zero, List.set_cons_succ, i64_w, i32_w]
        rfl
       refine take_ (i := 42) (N := some 72) (v := ?_) (a' := ?_) #[true, true, true, true, true, true, true, true, true, true, true, true, true, true, true, true, true, true, true, true, true, true, true, true, true, true, true, true, true, true, true, true, true, true, true, true, true, true, true, true, true, false, true, false, false, false, false, false] rfl rfl (take_ofW HT_.out HW_.out (by kernel_rfl)) (fun _ _ _ h => h) (Or.inl ⟨by rfl, ?_⟩) hHeld ?_ ?_
       rotate_left
       ·rintro w' ⟨s0, s1, s2, s3, s4, s5⟩
        go_simp; with_reducible rfl
       rotate_left
       ·simp only [Act.put, List.setIfInBounds_toArray, List.set_cons_zero, List.set_cons_succ, i64_w, i32_w]
        rfl
       refine one_ (i := 41) (N := some 71) #[true, true, true, true, true, true, true, true, true, true, true, true, true, true, true, true, true, true, true, true, true, true, true, true, true, true, true, true, true, true, true, true, true, true, true, true, true, true, true, true, true, true, true, false, false, false, false, false] rfl rfl (one_of HT_.out (by kernel_rfl)) (by decide) (fun K hK => ?_)
       refine goes_ Try.func22 (by kernel_rfl) rfl #[.agg #[.int .u64 a0_0, .int .u64 a0_1]] (by rfl) rfl rfl aA ?_
       with_reducible refine (wide_Sqrt.calls k a0_0 a0_1 t309 _ A23.out).mono ?_
       rintro e w51 ⟨rfl, hb⟩
       refine ⟨_, rfl, ?_⟩; have n0_ := Aside0.mk (blk_below (g := gb277) (o := .cells #[.int .u64 a0_0, .int .u64 a0_1] 25 (0, 0)) kA hb); have n1_ := Aside0.mk (blk_below (g := gb283) (o := .cells #[.int .u64 t279, .int .u64 t280] 25 (0, 0)) kA hb); have n2_ := Aside0.mk (blk_below (g := gb290) (o := .cells #[.int .u64 t286, .int .u64 t287] 28 (0, 0)) kA hb); have n3_ := Aside0.mk (below_step bA hb); clear BK277 BK283 BK290 HB; have BK277 := n0_; have BK283 := n1_; have BK290 := n2_; have HB := n3_; clear n0_ n1_ n2_ n3_; (try clear hb)
       refine hK.out _ _ ⟨(blk_cell BK283.out 0).trans rfl, (blk_cell BK283.out 1).trans rfl, (blk_cell BK290.out 0).trans rfl, (blk_cell BK290.out 1).trans rfl, (blk_cell BK277.out 0).trans rfl, (blk_cell BK277.out 1).trans rfl⟩ (fun hHeld => ?_)
       clear hK K
       refine norm_ (a' := ?_) ?_ ?_
       rotate_left
       ·show Act.put _ (some 71) _ = _
        simp only [Act.put, List.setIfInBounds_toArray, List.set_cons_zero, List.set_cons_succ, i64_w, i32_w]
        rfl
       refine one_ (i := 43) (N := some 73) #[true, true, true, true, true, true, true, true, true, true, true, true, true, true, true, true, true, true, true, true, true, true, true, true, true, true, true, true, true, true, true, true, true, true, true, true, true, true, true, true, true, true, true, true, false, false, false, false] rfl rfl (one_of HT_.out (by kernel_rfl)) (by decide) (fun K hK => ?_)
       refine goes_ Try.func16 (by kernel_rfl) rfl #[.agg #[.int .u64 a0_0, .int .u64 a0_1]] (by rfl) rfl rfl aA ?_
       with_reducible refine (backfilllaw01_ref.calls a0_0 a0_1 t310 t311 _ A24.out).mono ?_
       rintro e w52 ⟨rfl, hb⟩
       refine ⟨_, rfl, ?_⟩; have n0_ := Aside0.mk (blk_below (g := gb277) (o := .cells #[.int .u64 a0_0, .int .u64 a0_1] 25 (0, 0)) kA hb); have n1_ := Aside0.mk (blk_below (g := gb283) (o := .cells #[.int .u64 t279, .int .u64 t280] 25 (0, 0)) kA hb); have n2_ := Aside0.mk (blk_below (g := gb290) (o := .cells #[.int .u64 t286, .int .u64 t287] 28 (0, 0)) kA hb); have n3_ := Aside0.mk (below_step bA hb); clear BK277 BK283 BK290 HB; have BK277 := n0_; have BK283 := n1_; have BK290 := n2_; have HB := n3_; clear n0_ n1_ n2_ n3_; (try clear hb)
       refine hK.out _ _ ⟨(blk_cell BK283.out 0).trans rfl, (blk_cell BK283.out 1).trans rfl, (blk_cell BK290.out 0).trans rfl, (blk_cell BK290.out 1).trans rfl, (blk_cell BK277.out 0).trans rfl, (blk_cell BK277.out 1).trans rfl⟩ (fun hHeld => ?_)
       clear hK K
       refine norm_ (a' := ?_) ?_ ?_
       rotate_left
       ·show Act.put _ (some 73) _ = _
        simp only [Act.put, List.setIfInBounds_toArray, List.set_cons_zero, List.set_cons_succ, i64_w, i32_w]
        rfl
       refine one_ (i := 44) (N := some 74) #[true, true, true, true, true, true, true, true, true, true, true, true, true, true, true, true, true, true, true, true, true, true, true, true, true, true, true, true, true, true, true, true, true, true, true, true, true, true, true, true, true, true, true, true, true, false, false, false] rfl rfl (one_of HT_.out (by kernel_rfl)) (by decide) (fun K hK => ?_)
       refine goes_ Try.func23 (by kernel_rfl) rfl #[.agg #[.int .u64 t310, .int .u64 t311]] (by rfl) rfl rfl aA ?_
       with_reducible refine (backfillref01_Sqrt.calls k t310 t311 t312 _ A25.out).mono ?_
       rintro e w53 ⟨rfl, hb⟩
       refine ⟨_, rfl, ?_⟩; have n0_ := Aside0.mk (blk_below (g := gb277) (o := .cells #[.int .u64 a0_0, .int .u64 a0_1] 25 (0, 0)) kA hb); have n1_ := Aside0.mk (blk_below (g := gb283) (o := .cells #[.int .u64 t279, .int .u64 t280] 25 (0, 0)) kA hb); have n2_ := Aside0.mk (blk_below (g := gb290) (o := .cells #[.int .u64 t286, .int .u64 t287] 28 (0, 0)) kA hb); have n3_ := Aside0.mk (below_step bA hb); clear BK277 BK283 BK290 HB; have BK277 := n0_; have BK283 := n1_; have BK290 := n2_; have HB := n3_; clear n0_ n1_ n2_ n3_; (try clear hb)
       refine hK.out _ _ ⟨(blk_cell BK283.out 0).trans rfl, (blk_cell BK283.out 1).trans rfl, (blk_cell BK290.out 0).trans rfl, (blk_cell BK290.out 1).trans rfl, (blk_cell BK277.out 0).trans rfl, (blk_cell BK277.out 1).trans rfl⟩ (fun hHeld => ?_)
       clear hK K
       refine norm_ (a' := ?_) ?_ ?_
       rotate_left
       ·show Act.put _ (some 74) _ = _
        simp only [Act.put, List.setIfInBounds_toArray, List.set_cons_zero, List.set_cons_succ, i64_w, i32_w]
        rfl
       refine pure_ (i := 45) (N := some 75) (v := ?_) (a' := ?_) #[true, true, true, true, true, true, true, true, true, true, true, true, true, true, true, true, true, true, true, true, true, true, true, true, true, true, true, true, true, true, true, true, true, true, true, true, true, true, true, true, true, true, true, true, true, true, false, false] rfl rfl (any_of HT_.out (by kernel_rfl)) (fun _ _ _ h => h) (Or.inl ⟨by rfl, ?_⟩) ?_ ?_
       rotate_left
       ·intro w'
        go_simp; with_reducible rfl
       rotate_left
       ·simp only [Act.put, List.setIfInBounds_toArray, List.set_cons_zero, List.set_cons_succ, i64_w, i32_w]
        rfl
       refine pure_ (i := 46) (N := some 76) (v := ?_) (a' := ?_) #[true, true, true, true, true, true, true, true, true, true, true, true, true, true, true, true, true, true, true, true, true, true, true, true, true, true, true, true, true, true, true, true, true, true, true, true, true, true, true, true, true, true, true, true, true, true, true, false] rfl rfl (any_of HT_.out (by kernel_rfl)) (fun _ _ _ h => h) (Or.inl ⟨by rfl, ?_⟩) ?_ ?_
       rotate_left
       ·intro w'
        go_simp; with_reducible rfl
       rotate_left
       ·simp only [Act.put, List.setIfInBounds_toArray, List.set_cons_zero, List.set_cons_succ, i64_w, i32_w]
        rfl
       refine pure_ (i := 47) (N := some 6) (v := ?_) (a' := ?_) #[true, true, true, true, true, true, true, true, true, true, true, true, true, true, true, true, true, true, true, true, true, true, true, true, true, true, true, true, true, true, true, true, true, true, true, true, true, true, true, true, true, true, true, true, true, true, true, true] rfl rfl (any_of HT_.out (by kernel_rfl)) (fun _ _ _ h => h) (Or.inl ⟨by rfl, ?_⟩) ?_ ?_
       rotate_left
       ·intro w'
        go_simp; with_reducible rfl
       rotate_left
       ·simp only [Act.put, List.setIfInBounds_toArray, List.set_cons_zero, List.set_cons_succ, i64_w, i32_w]
        rfl
       refine done_ (done_of HT_.out (by kernel_rfl)) ?_
       try go_wp2
       go_ret
       exact ⟨by first | rfl | (simp [errW_none, errW_some] <;> rfl) | (simp [*, errW_none, errW_some] <;> rfl), bA⟩
      ·rw [if_neg c22] at H
       have c22b0 : (t301 == t307 && (t302 == t308)) = false := by simpa using c22
       (try (have c22b1 : decide (t301 = t307 && (t302 == t308)) = false := by simpa using c22))
       (try (have c22b2 : (t301 == t307 && (t302 == t308)) = false := by simpa using c22))
       (try (have c22b3 : ¬ (t301 = t307 && (t302 == t308)) := by simpa using c22))
       clear c22
       exact absurd H (by simp)
     ·rw [if_neg c17] at H
      have c17b0 : (t293 == t299 && (t294 == t300)) = false := by simpa using c17
      (try (have c17b1 : decide (t293 = t299 && (t294 == t300)) = false := by simpa using c17))
      (try (have c17b2 : (t293 == t299 && (t294 == t300)) = false := by simpa using c17))
      (try (have c17b3 : ¬ (t293 = t299 && (t294 == t300)) := by simpa using c17))
      clear c17
      exact absurd H (by simp)
    ·rw [if_neg c12] at H
     have c12b0 : (t282 == t289) = false := by simpa using c12
     (try (have c12b1 : decide (t282 = t289) = false := by simpa using c12))
     (try (have c12b2 : (t282 == t289) = false := by simpa using c12))
     (try (have c12b3 : ¬ (t282 = t289) := by simpa using c12))
     clear c12
     exact absurd H (by simp)
   ·rw [if_neg c11] at H
    have c11b0 : (t281 == t288) = false := beq_eq_false_iff_ne.mpr c11
    have c11b1 : (t281 != t288) = true := bne_iff_ne.mpr c11
    exact absurd H (by simp)
  ·rw [if_neg c10] at H
   have c10b0 : (t279 == t291 && (t280 == t292)) = false := by simpa using c10
   (try (have c10b1 : decide (t279 = t291 && (t280 == t292)) = false := by simpa using c10))
   (try (have c10b2 : (t279 == t291 && (t280 == t292)) = false := by simpa using c10))
   (try (have c10b3 : ¬ (t279 = t291 && (t280 == t292)) := by simpa using c10))
   clear c10
   exact absurd H (by simp)
 ·replace c8 := Bool.eq_false_iff.mpr c8
  subst c8
  have H1 : (none) = some r := by rw [if_neg (show ¬ (false = true) by decide)] at H; exact H
  clear H
  have H := H1
  clear H1
  exact absurd H (by simp)

end Go.Proofs.Ytcolhngdhlamkaa.GW
