-- Laid by a program of this session (wip/tools/pr.py): contracts and pure functions; Lean checks it.
import Derived.Test.YtcolhngdhlamkaaGCLx0
import Derived.Test.YtcolhngdhlamkaaGCLx1
import Derived.Test.YtcolhngdhlamkaaGCLx9
import Derived.Test.YtcolhngdhlamkaaGCLx10
namespace Go.Proofs.Ytcolhngdhlamkaa.GCL
open Go.RowKit Go.Proofs.YtcolhngdhlamkaaW.PrintWords Go.Proofs.YtcolhngdhlamkaaW.PrintLast Go.Proofs.YtcolhngdhlamkaaW.PrintMore
attribute [local go_sem] max2_int min2_int max_two min_two max_three min_three max_four min_four   -- for this text's walks alone
set_option linter.unusedVariables false
set_option linter.unusedSimpArgs false

attribute [local go_sem high] eqA25
/-! ### backfilllaw11_ConfigLaws: function 6 -/
mutual
def backfilllaw11_ConfigLaws.j0 : Nat → Bool → Int → Bool → Int → Int → Int → Int → Int → Int → Int → Int → Int → Int → Int → Int → Option (Bool)
 | 0, _, _, _, _, _, _, _, _, _, _, _, _, _, _, _ => none
 | k + 1, x3, x7, x92, x281000, x281001, x281002, x281003, x281004, x281005, x281006, x281007, x287000, x287001, x288000, x288001 => if x92 = true then (none) else ((config_Most.f k x281000 x281001 x281002 x281003 x281004 x281005 x281006 x281007).bind fun t295 => ((config_Floor.f k x281000 x281001 x281002 x281003 x281004 x281005 x281006 x281007).bind fun t296 => (if (IntKind.u64.wrap (Int.tdiv t295 2)) < t296 then (backfilllaw11_ConfigLaws.j1 k x3 x7 true x281000 x281001 x281002 x281003 x281004 x281005 x281006 x281007 x287000 x287001 x288000 x288001) else ((config_Floor.f k x281000 x281001 x281002 x281003 x281004 x281005 x281006 x281007).bind fun t297 => (if t297 = (IntKind.u64.wrap ((IntKind.u64.wrap (wrap64 (x281000 * x281006))) * 4294967296)) then ((config_Most.f k x281000 x281001 x281002 x281003 x281004 x281005 x281006 x281007).bind fun t298 => (backfilllaw11_ConfigLaws.j1 k x3 x7 (decide (t298 > 9223372036854775808)) x281000 x281001 x281002 x281003 x281004 x281005 x281006 x281007 x287000 x287001 x288000 x288001)) else (backfilllaw11_ConfigLaws.j1 k x3 x7 true x281000 x281001 x281002 x281003 x281004 x281005 x281006 x281007 x287000 x287001 x288000 x288001))))))
def backfilllaw11_ConfigLaws.j1 : Nat → Bool → Int → Bool → Int → Int → Int → Int → Int → Int → Int → Int → Int → Int → Int → Int → Option (Bool)
 | 0, _, _, _, _, _, _, _, _, _, _, _, _, _, _, _ => none
 | k + 1, x3, x7, x115, x281000, x281001, x281002, x281003, x281004, x281005, x281006, x281007, x287000, x287001, x288000, x288001 => if x115 = true then (none) else ((config_Bound.f k x281000 x281001 x281002 x281003 x281004 x281005 x281006 x281007).bind fun t299 => ((backfillref01_Times.f x287000 x287001 1000).bind fun bt302 => ((backfillref01_Times.f x288000 x288001 (IntKind.u64.wrap (wrap64 ((wrap64 (x281003 * t299)) + x7)))).bind fun bt306 => (if x3 = true then (if bt302.2.2 = true then (if bt306.2.2 = true then ((backfillref01_Cmp.f k bt302.1 bt302.2.1 bt306.1 bt306.2.1).bind fun t310 => (if t310 ≤ 0 then (if ((x287000 == 0 && (x287001 == 0)) == (x281004 == 0)) = true then (some (!(x288000 == 0) || (!(x288001 == 0)))) else (none)) else (none))) else (none)) else (none)) else (none)))))
end
def backfilllaw11_ConfigLaws.f (k : Nat) (a0_0 : Int) (a0_1 : Int) (a0_2 : Int) (a0_3 : Int) (a0_4 : Int) (a0_5 : Int) (a0_6 : Int) (a0_7 : Int) : Option (Bool) := (backfilllaw11_shown.f k).bind fun t281 => ((config_Off.f k a0_0 a0_1 a0_2 a0_3 a0_4 a0_5 a0_6 a0_7).bind fun bt282 => ((config_Check.f k a0_0 a0_1 a0_2 a0_3 a0_4 a0_5 a0_6 a0_7).bind fun t288 => (if t288 = 0 then ((config_Lead.f k a0_0 a0_1 a0_2 a0_3 a0_4 a0_5 a0_6 a0_7).bind fun t293 => (if (wrap64 (a0_3 * (wrap64 (t293 + 1)))) ≤ (wrap64 (a0_4 + (wrap64 (a0_5 * a0_0)))) then (backfilllaw11_ConfigLaws.j0 k t281 (wrap64 (a0_4 + (wrap64 (a0_5 * a0_0)))) true a0_0 a0_1 a0_2 a0_3 a0_4 a0_5 a0_6 a0_7 bt282.1 bt282.2.1 bt282.2.2.1 bt282.2.2.2) else (if (wrap64 (a0_3 * t293)) > (wrap64 (a0_4 + (wrap64 (a0_5 * a0_0)))) then (backfilllaw11_ConfigLaws.j0 k t281 (wrap64 (a0_4 + (wrap64 (a0_5 * a0_0)))) true a0_0 a0_1 a0_2 a0_3 a0_4 a0_5 a0_6 a0_7 bt282.1 bt282.2.1 bt282.2.2.1 bt282.2.2.2) else ((config_Bound.f k a0_0 a0_1 a0_2 a0_3 a0_4 a0_5 a0_6 a0_7).bind fun t294 => (backfilllaw11_ConfigLaws.j0 k t281 (wrap64 (a0_4 + (wrap64 (a0_5 * a0_0)))) (t294 != (wrap64 ((wrap64 (t293 + 1)) + (wrap64 (a0_1 * a0_2))))) a0_0 a0_1 a0_2 a0_3 a0_4 a0_5 a0_6 a0_7 bt282.1 bt282.2.1 bt282.2.2.1 bt282.2.2.2))))) else (if t281 = true then ((config_Lead.f k a0_0 a0_1 a0_2 a0_3 a0_4 a0_5 a0_6 a0_7).bind fun t289 => (if t289 = 0 then ((config_Bound.f k a0_0 a0_1 a0_2 a0_3 a0_4 a0_5 a0_6 a0_7).bind fun t290 => (if t290 = 0 then ((config_Most.f k a0_0 a0_1 a0_2 a0_3 a0_4 a0_5 a0_6 a0_7).bind fun t291 => (if t291 = 0 then ((config_Floor.f k a0_0 a0_1 a0_2 a0_3 a0_4 a0_5 a0_6 a0_7).bind fun t292 => (if t292 = 0 then (if (bt282.1 == 0 && (bt282.2.1 == 0)) = true then (some (bt282.2.2.1 == 0 && (bt282.2.2.2 == 0))) else (none)) else (none))) else (none))) else (none))) else (none))) else (none)))))
theorem backfilllaw11_ConfigLaws.mono_l : ∀ k, (∀ y0 y1 y2 y3 y4 y5 y6 y7 y8 y9 y10 y11 y12 y13 y14, LeO (backfilllaw11_ConfigLaws.j0 k y0 y1 y2 y3 y4 y5 y6 y7 y8 y9 y10 y11 y12 y13 y14) (backfilllaw11_ConfigLaws.j0 (k + 1) y0 y1 y2 y3 y4 y5 y6 y7 y8 y9 y10 y11 y12 y13 y14)) ∧ (∀ y0 y1 y2 y3 y4 y5 y6 y7 y8 y9 y10 y11 y12 y13 y14, LeO (backfilllaw11_ConfigLaws.j1 k y0 y1 y2 y3 y4 y5 y6 y7 y8 y9 y10 y11 y12 y13 y14) (backfilllaw11_ConfigLaws.j1 (k + 1) y0 y1 y2 y3 y4 y5 y6 y7 y8 y9 y10 y11 y12 y13 y14))
 | 0 => ⟨fun _ _ _ _ _ _ _ _ _ _ _ _ _ _ _ r h => by simp [backfilllaw11_ConfigLaws.j0] at h, fun _ _ _ _ _ _ _ _ _ _ _ _ _ _ _ r h => by simp [backfilllaw11_ConfigLaws.j1] at h⟩
 | k + 1 => by
  obtain ⟨ih0, ih1⟩ := backfilllaw11_ConfigLaws.mono_l k
  refine ⟨?_, ?_⟩
  ·intro y0 y1 y2 y3 y4 y5 y6 y7 y8 y9 y10 y11 y12 y13 y14
   unfold backfilllaw11_ConfigLaws.j0
   repeat' first
   | (with_reducible exact ih0 _ _ _ _ _ _ _ _ _ _ _ _ _ _ _)
   | (with_reducible exact ih1 _ _ _ _ _ _ _ _ _ _ _ _ _ _ _)
   | (with_reducible exact backfilllaw11_shown.mono _)
   | (with_reducible exact backfillref01_Cmp.mono _ _ _ _ _)
   | (with_reducible exact config_Bound.mono _ _ _ _ _ _ _ _ _)
   | (with_reducible exact config_Check.mono _ _ _ _ _ _ _ _ _)
   | (with_reducible exact config_Floor.mono _ _ _ _ _ _ _ _ _)
   | (with_reducible exact config_Lead.mono _ _ _ _ _ _ _ _ _)
   | (with_reducible exact config_Most.mono _ _ _ _ _ _ _ _ _)
   | (with_reducible exact config_Off.mono _ _ _ _ _ _ _ _ _)
   | (with_reducible exact LeO.refl _)
   | (with_reducible exact LeO.none _)
   | (with_reducible refine LeO.ite ?_ ?_)
   | (with_reducible refine LeO.bind ?_ (fun _ => ?_))
   | exact ih0 _ _ _ _ _ _ _ _ _ _ _ _ _ _ _
   | exact ih1 _ _ _ _ _ _ _ _ _ _ _ _ _ _ _
   | exact backfilllaw11_shown.mono _
   | exact backfillref01_Cmp.mono _ _ _ _ _
   | exact config_Bound.mono _ _ _ _ _ _ _ _ _
   | exact config_Check.mono _ _ _ _ _ _ _ _ _
   | exact config_Floor.mono _ _ _ _ _ _ _ _ _
   | exact config_Lead.mono _ _ _ _ _ _ _ _ _
   | exact config_Most.mono _ _ _ _ _ _ _ _ _
   | exact config_Off.mono _ _ _ _ _ _ _ _ _
   | exact LeO.none _
   | refine LeO.ite ?_ ?_
   | refine LeO.bind ?_ (fun _ => ?_)
  ·intro y0 y1 y2 y3 y4 y5 y6 y7 y8 y9 y10 y11 y12 y13 y14
   unfold backfilllaw11_ConfigLaws.j1
   repeat' first
   | (with_reducible exact ih0 _ _ _ _ _ _ _ _ _ _ _ _ _ _ _)
   | (with_reducible exact ih1 _ _ _ _ _ _ _ _ _ _ _ _ _ _ _)
   | (with_reducible exact backfilllaw11_shown.mono _)
   | (with_reducible exact backfillref01_Cmp.mono _ _ _ _ _)
   | (with_reducible exact config_Bound.mono _ _ _ _ _ _ _ _ _)
   | (with_reducible exact config_Check.mono _ _ _ _ _ _ _ _ _)
   | (with_reducible exact config_Floor.mono _ _ _ _ _ _ _ _ _)
   | (with_reducible exact config_Lead.mono _ _ _ _ _ _ _ _ _)
   | (with_reducible exact config_Most.mono _ _ _ _ _ _ _ _ _)
   | (with_reducible exact config_Off.mono _ _ _ _ _ _ _ _ _)
   | (with_reducible exact LeO.refl _)
   | (with_reducible exact LeO.none _)
   | (with_reducible refine LeO.ite ?_ ?_)
   | (with_reducible refine LeO.bind ?_ (fun _ => ?_))
   | exact ih0 _ _ _ _ _ _ _ _ _ _ _ _ _ _ _
   | exact ih1 _ _ _ _ _ _ _ _ _ _ _ _ _ _ _
   | exact backfilllaw11_shown.mono _
   | exact backfillref01_Cmp.mono _ _ _ _ _
   | exact config_Bound.mono _ _ _ _ _ _ _ _ _
   | exact config_Check.mono _ _ _ _ _ _ _ _ _
   | exact config_Floor.mono _ _ _ _ _ _ _ _ _
   | exact config_Lead.mono _ _ _ _ _ _ _ _ _
   | exact config_Most.mono _ _ _ _ _ _ _ _ _
   | exact config_Off.mono _ _ _ _ _ _ _ _ _
   | exact LeO.none _
   | refine LeO.ite ?_ ?_
   | refine LeO.bind ?_ (fun _ => ?_)
theorem backfilllaw11_ConfigLaws.mono : ∀ a0 a1 a2 a3 a4 a5 a6 a7 k, LeO (backfilllaw11_ConfigLaws.f k a0 a1 a2 a3 a4 a5 a6 a7) (backfilllaw11_ConfigLaws.f (k + 1) a0 a1 a2 a3 a4 a5 a6 a7) := by
 intro a0 a1 a2 a3 a4 a5 a6 a7 k
 obtain ⟨ih0, ih1⟩ := backfilllaw11_ConfigLaws.mono_l k
 unfold backfilllaw11_ConfigLaws.f
 repeat' first
   | (with_reducible exact ih0 _ _ _ _ _ _ _ _ _ _ _ _ _ _ _)
   | (with_reducible exact ih1 _ _ _ _ _ _ _ _ _ _ _ _ _ _ _)
   | (with_reducible exact backfilllaw11_shown.mono _)
   | (with_reducible exact backfillref01_Cmp.mono _ _ _ _ _)
   | (with_reducible exact config_Bound.mono _ _ _ _ _ _ _ _ _)
   | (with_reducible exact config_Check.mono _ _ _ _ _ _ _ _ _)
   | (with_reducible exact config_Floor.mono _ _ _ _ _ _ _ _ _)
   | (with_reducible exact config_Lead.mono _ _ _ _ _ _ _ _ _)
   | (with_reducible exact config_Most.mono _ _ _ _ _ _ _ _ _)
   | (with_reducible exact config_Off.mono _ _ _ _ _ _ _ _ _)
   | (with_reducible exact LeO.refl _)
   | (with_reducible exact LeO.none _)
   | (with_reducible refine LeO.ite ?_ ?_)
   | (with_reducible refine LeO.bind ?_ (fun _ => ?_))
   | exact ih0 _ _ _ _ _ _ _ _ _ _ _ _ _ _ _
   | exact ih1 _ _ _ _ _ _ _ _ _ _ _ _ _ _ _
   | exact backfilllaw11_shown.mono _
   | exact backfillref01_Cmp.mono _ _ _ _ _
   | exact config_Bound.mono _ _ _ _ _ _ _ _ _
   | exact config_Check.mono _ _ _ _ _ _ _ _ _
   | exact config_Floor.mono _ _ _ _ _ _ _ _ _
   | exact config_Lead.mono _ _ _ _ _ _ _ _ _
   | exact config_Most.mono _ _ _ _ _ _ _ _ _
   | exact config_Off.mono _ _ _ _ _ _ _ _ _
   | exact LeO.none _
   | refine LeO.ite ?_ ?_
   | refine LeO.bind ?_ (fun _ => ?_)
def backfilllaw11_ConfigLaws.T7 : Bool × List (List Nat × List Nat) := (true, [([], []), ([0], [0]), ([], []), ([2], [2]), ([1, 3], [1, 3]), ([], []), ([4, 5], [4, 5]), ([6], [6]), ([7], [7]), ([8, 7], [7, 8]), ([7], [7]), ([9, 10, 7], [7, 9, 10]), ([7], [7]), ([11, 12, 7], [7, 11, 12]), ([7, 13], [7, 13]), ([14, 7], [14]), ([15], [15]), ([16, 15, 15], [15, 16]), ([15], [15]), ([18, 15], [15, 18]), ([15], [15]), ([20, 15], [15, 20]), ([15], [15]), ([22, 15], [15, 22]), ([21, 23, 15], [15, 21, 23]), ([19, 24, 15], [15, 19, 24]), ([17, 25, 15], [15, 17, 25]), ([15, 26], [15, 26])])
def backfilllaw11_ConfigLaws.B7 : List Nat := [0, 1, 0, 4, 15, 0, 63, 127, 255, 511, 255, 2047, 255, 8191, 16383, 32767, 65535, 131071, 65535, 327679, 65535, 1114111, 65535, 4259839, 15794175, 33357823, 67108863, 134217727]
theorem backfilllaw11_ConfigLaws.tab7 : rtab .any (opsOf Try.f6 7) = backfilllaw11_ConfigLaws.T7 := by kernel_rfl
theorem backfilllaw11_ConfigLaws.bits7 : waitsOk backfilllaw11_ConfigLaws.T7.2 backfilllaw11_ConfigLaws.B7 = true := by kernel_rfl
def backfilllaw11_ConfigLaws.T9 : Bool × List (List Nat × List Nat) := (true, [([], []), ([0], [0]), ([1], [1]), ([], []), ([3, 1], [3]), ([2, 4], [2, 4]), ([5, 4], [5]), ([6], [6]), ([7, 6, 6], [6, 7]), ([6], [6]), ([9, 6], [6, 9]), ([6], [6]), ([11, 6], [6, 11]), ([10, 12, 6], [6, 10, 12]), ([13, 6], [6, 13]), ([14, 6], [6, 14]), ([8, 15, 6], [6, 8, 15]), ([6, 16], [6, 16]), ([17, 8], [17]), ([18], [18]), ([19, 18, 18], [18, 19]), ([20, 18], [18, 20]), ([18, 21], [18, 21])])
def backfilllaw11_ConfigLaws.B9 : List Nat := [0, 1, 3, 0, 11, 31, 63, 127, 255, 127, 639, 127, 2175, 7807, 15999, 32383, 65535, 131071, 262143, 524287, 1048575, 2097151, 4194303]
theorem backfilllaw11_ConfigLaws.tab9 : rtab .any (opsOf Try.f6 9) = backfilllaw11_ConfigLaws.T9 := by kernel_rfl
theorem backfilllaw11_ConfigLaws.bits9 : waitsOk backfilllaw11_ConfigLaws.T9.2 backfilllaw11_ConfigLaws.B9 = true := by kernel_rfl
def backfilllaw11_ConfigLaws.T11 : Bool × List (List Nat × List Nat) := (true, [([], []), ([0], [0]), ([], []), ([2], [2]), ([1, 3], [1, 3]), ([], []), ([4, 5], [4, 5]), ([6], [6]), ([7, 3, 0, 1, 2, 3, 4, 5, 6, 7], [7])])
def backfilllaw11_ConfigLaws.B11 : List Nat := [0, 1, 0, 4, 15, 0, 63, 127, 255]
theorem backfilllaw11_ConfigLaws.tab11 : rtab .any (opsOf Try.f6 11) = backfilllaw11_ConfigLaws.T11 := by kernel_rfl
theorem backfilllaw11_ConfigLaws.bits11 : waitsOk backfilllaw11_ConfigLaws.T11.2 backfilllaw11_ConfigLaws.B11 = true := by kernel_rfl
def backfilllaw11_ConfigLaws.T16 : Bool × List (List Nat × List Nat) := (true, [([], []), ([0], [0]), ([1], [1]), ([1, 2], [1, 2]), ([3, 1], [3]), ([4], [4]), ([4, 5], [4, 5]), ([6, 4], [6]), ([7], [7]), ([7], [7]), ([8, 9, 7, 7], [7, 8, 9]), ([10, 7], [7, 10]), ([7, 11], [7, 11]), ([12, 10], [12]), ([13], [13]), ([13], [13]), ([14, 15, 13], [13, 14, 15]), ([13], [13]), ([17, 13], [13, 17]), ([18, 13], [13, 18]), ([16, 19, 13], [13, 16, 19]), ([13, 20], [13, 20]), ([21, 13], [21]), ([22], [22]), ([22], [22]), ([23, 24, 22], [22, 23, 24]), ([22, 25], [22, 25]), ([26, 22, 0, 1, 2, 3, 4, 5, 6, 7, 8, 9, 10, 11, 12, 13, 14, 15, 16, 17, 18, 19, 20, 21, 22, 23, 24, 25, 26], [26])])
def backfilllaw11_ConfigLaws.B16 : List Nat := [0, 1, 3, 7, 15, 31, 63, 127, 255, 255, 1023, 2047, 4095, 8191, 16383, 16383, 65535, 16383, 147455, 409599, 1048575, 2097151, 4194303, 8388607, 8388607, 33554431, 67108863, 134217727]
theorem backfilllaw11_ConfigLaws.tab16 : rtab .any (opsOf Try.f6 16) = backfilllaw11_ConfigLaws.T16 := by kernel_rfl
theorem backfilllaw11_ConfigLaws.bits16 : waitsOk backfilllaw11_ConfigLaws.T16.2 backfilllaw11_ConfigLaws.B16 = true := by kernel_rfl
set_option maxHeartbeats 8000000 in
set_option maxRecDepth 100000 in
theorem backfilllaw11_ConfigLaws.calls (k : Nat) (a0_0 : Int) (a0_1 : Int) (a0_2 : Int) (a0_3 : Int) (a0_4 : Int) (a0_5 : Int) (a0_6 : Int) (a0_7 : Int) (r : Bool) (w : World) (h : backfilllaw11_ConfigLaws.f k a0_0 a0_1 a0_2 a0_3 a0_4 a0_5 a0_6 a0_7 = some r) :
  Calls Try.prog 6 #[.agg #[.int .i64 a0_0, .int .i64 a0_1, .int .i64 a0_2, .int .i64 a0_3, .int .i64 a0_4, .int .i64 a0_5, .int .i64 a0_6, .int .i64 a0_7]] w fun e w' => e = .returned (.bool r) ∧ Below w.heap.size w w' := by
 have hu39 := Try.underlying39
 have hu25 := Try.underlying25
 have hu28 := Try.underlying28
 have HB := Aside0.mk (Below.refl w.heap.size w)
 have H : ((backfilllaw11_shown.f k).bind fun t281 => ((config_Off.f k a0_0 a0_1 a0_2 a0_3 a0_4 a0_5 a0_6 a0_7).bind fun bt282 => ((config_Check.f k a0_0 a0_1 a0_2 a0_3 a0_4 a0_5 a0_6 a0_7).bind fun t288 => (if t288 = 0 then ((config_Lead.f k a0_0 a0_1 a0_2 a0_3 a0_4 a0_5 a0_6 a0_7).bind fun t293 => (if (wrap64 (a0_3 * (wrap64 (t293 + 1)))) ≤ (wrap64 (a0_4 + (wrap64 (a0_5 * a0_0)))) then (backfilllaw11_ConfigLaws.j0 k t281 (wrap64 (a0_4 + (wrap64 (a0_5 * a0_0)))) true a0_0 a0_1 a0_2 a0_3 a0_4 a0_5 a0_6 a0_7 bt282.1 bt282.2.1 bt282.2.2.1 bt282.2.2.2) else (if (wrap64 (a0_3 * t293)) > (wrap64 (a0_4 + (wrap64 (a0_5 * a0_0)))) then (backfilllaw11_ConfigLaws.j0 k t281 (wrap64 (a0_4 + (wrap64 (a0_5 * a0_0)))) true a0_0 a0_1 a0_2 a0_3 a0_4 a0_5 a0_6 a0_7 bt282.1 bt282.2.1 bt282.2.2.1 bt282.2.2.2) else ((config_Bound.f k a0_0 a0_1 a0_2 a0_3 a0_4 a0_5 a0_6 a0_7).bind fun t294 => (backfilllaw11_ConfigLaws.j0 k t281 (wrap64 (a0_4 + (wrap64 (a0_5 * a0_0)))) (t294 != (wrap64 ((wrap64 (t293 + 1)) + (wrap64 (a0_1 * a0_2))))) a0_0 a0_1 a0_2 a0_3 a0_4 a0_5 a0_6 a0_7 bt282.1 bt282.2.1 bt282.2.2.1 bt282.2.2.2))))) else (if t281 = true then ((config_Lead.f k a0_0 a0_1 a0_2 a0_3 a0_4 a0_5 a0_6 a0_7).bind fun t289 => (if t289 = 0 then ((config_Bound.f k a0_0 a0_1 a0_2 a0_3 a0_4 a0_5 a0_6 a0_7).bind fun t290 => (if t290 = 0 then ((config_Most.f k a0_0 a0_1 a0_2 a0_3 a0_4 a0_5 a0_6 a0_7).bind fun t291 => (if t291 = 0 then ((config_Floor.f k a0_0 a0_1 a0_2 a0_3 a0_4 a0_5 a0_6 a0_7).bind fun t292 => (if t292 = 0 then (if (bt282.1 == 0 && (bt282.2.1 == 0)) = true then (some (bt282.2.2.1 == 0 && (bt282.2.2.2 == 0))) else (none)) else (none))) else (none))) else (none))) else (none))) else (none)))))) = some r := h
 clear h; replace H := Option.bind_eq_some_iff.mp H; obtain ⟨t281, A20, H⟩ := H; replace H : ((config_Off.f k a0_0 a0_1 a0_2 a0_3 a0_4 a0_5 a0_6 a0_7).bind fun bt282 => ((config_Check.f k a0_0 a0_1 a0_2 a0_3 a0_4 a0_5 a0_6 a0_7).bind fun t288 => (if t288 = 0 then ((config_Lead.f k a0_0 a0_1 a0_2 a0_3 a0_4 a0_5 a0_6 a0_7).bind fun t293 => (if (wrap64 (a0_3 * (wrap64 (t293 + 1)))) ≤ (wrap64 (a0_4 + (wrap64 (a0_5 * a0_0)))) then (backfilllaw11_ConfigLaws.j0 k t281 (wrap64 (a0_4 + (wrap64 (a0_5 * a0_0)))) true a0_0 a0_1 a0_2 a0_3 a0_4 a0_5 a0_6 a0_7 bt282.1 bt282.2.1 bt282.2.2.1 bt282.2.2.2) else (if (wrap64 (a0_3 * t293)) > (wrap64 (a0_4 + (wrap64 (a0_5 * a0_0)))) then (backfilllaw11_ConfigLaws.j0 k t281 (wrap64 (a0_4 + (wrap64 (a0_5 * a0_0)))) true a0_0 a0_1 a0_2 a0_3 a0_4 a0_5 a0_6 a0_7 bt282.1 bt282.2.1 bt282.2.2.1 bt282.2.2.2) else ((config_Bound.f k a0_0 a0_1 a0_2 a0_3 a0_4 a0_5 a0_6 a0_7).bind fun t294 => (backfilllaw11_ConfigLaws.j0 k t281 (wrap64 (a0_4 + (wrap64 (a0_5 * a0_0)))) (t294 != (wrap64 ((wrap64 (t293 + 1)) + (wrap64 (a0_1 * a0_2))))) a0_0 a0_1 a0_2 a0_3 a0_4 a0_5 a0_6 a0_7 bt282.1 bt282.2.1 bt282.2.2.1 bt282.2.2.2))))) else (if t281 = true then ((config_Lead.f k a0_0 a0_1 a0_2 a0_3 a0_4 a0_5 a0_6 a0_7).bind fun t289 => (if t289 = 0 then ((config_Bound.f k a0_0 a0_1 a0_2 a0_3 a0_4 a0_5 a0_6 a0_7).bind fun t290 => (if t290 = 0 then ((config_Most.f k a0_0 a0_1 a0_2 a0_3 a0_4 a0_5 a0_6 a0_7).bind fun t291 => (if t291 = 0 then ((config_Floor.f k a0_0 a0_1 a0_2 a0_3 a0_4 a0_5 a0_6 a0_7).bind fun t292 => (if t292 = 0 then (if (bt282.1 == 0 && (bt282.2.1 == 0)) = true then (some (bt282.2.2.1 == 0 && (bt282.2.2.2 == 0))) else (none)) else (none))) else (none))) else (none))) else (none))) else (none))))) = some r := H; have A2 := Aside0.mk A20; clear A20; replace H := Option.bind_eq_some_iff.mp H; obtain ⟨⟨t282, t283, t284, t285⟩, A30, H⟩ := H; replace H : ((config_Check.f k a0_0 a0_1 a0_2 a0_3 a0_4 a0_5 a0_6 a0_7).bind fun t288 => (if t288 = 0 then ((config_Lead.f k a0_0 a0_1 a0_2 a0_3 a0_4 a0_5 a0_6 a0_7).bind fun t293 => (if (wrap64 (a0_3 * (wrap64 (t293 + 1)))) ≤ (wrap64 (a0_4 + (wrap64 (a0_5 * a0_0)))) then (backfilllaw11_ConfigLaws.j0 k t281 (wrap64 (a0_4 + (wrap64 (a0_5 * a0_0)))) true a0_0 a0_1 a0_2 a0_3 a0_4 a0_5 a0_6 a0_7 t282 t283 t284 t285) else (if (wrap64 (a0_3 * t293)) > (wrap64 (a0_4 + (wrap64 (a0_5 * a0_0)))) then (backfilllaw11_ConfigLaws.j0 k t281 (wrap64 (a0_4 + (wrap64 (a0_5 * a0_0)))) true a0_0 a0_1 a0_2 a0_3 a0_4 a0_5 a0_6 a0_7 t282 t283 t284 t285) else ((config_Bound.f k a0_0 a0_1 a0_2 a0_3 a0_4 a0_5 a0_6 a0_7).bind fun t294 => (backfilllaw11_ConfigLaws.j0 k t281 (wrap64 (a0_4 + (wrap64 (a0_5 * a0_0)))) (t294 != (wrap64 ((wrap64 (t293 + 1)) + (wrap64 (a0_1 * a0_2))))) a0_0 a0_1 a0_2 a0_3 a0_4 a0_5 a0_6 a0_7 t282 t283 t284 t285))))) else (if t281 = true then ((config_Lead.f k a0_0 a0_1 a0_2 a0_3 a0_4 a0_5 a0_6 a0_7).bind fun t289 => (if t289 = 0 then ((config_Bound.f k a0_0 a0_1 a0_2 a0_3 a0_4 a0_5 a0_6 a0_7).bind fun t290 => (if t290 = 0 then ((config_Most.f k a0_0 a0_1 a0_2 a0_3 a0_4 a0_5 a0_6 a0_7).bind fun t291 => (if t291 = 0 then ((config_Floor.f k a0_0 a0_1 a0_2 a0_3 a0_4 a0_5 a0_6 a0_7).bind fun t292 => (if t292 = 0 then (if (t282 == 0 && (t283 == 0)) = true then (some (t284 == 0 && (t285 == 0))) else (none)) else (none))) else (none))) else (none))) else (none))) else (none)))) = some r := H; have A3 := Aside0.mk A30; clear A30; replace H := Option.bind_eq_some_iff.mp H; obtain ⟨t288, A40, H⟩ := H; replace H : (if t288 = 0 then ((config_Lead.f k a0_0 a0_1 a0_2 a0_3 a0_4 a0_5 a0_6 a0_7).bind fun t293 => (if (wrap64 (a0_3 * (wrap64 (t293 + 1)))) ≤ (wrap64 (a0_4 + (wrap64 (a0_5 * a0_0)))) then (backfilllaw11_ConfigLaws.j0 k t281 (wrap64 (a0_4 + (wrap64 (a0_5 * a0_0)))) true a0_0 a0_1 a0_2 a0_3 a0_4 a0_5 a0_6 a0_7 t282 t283 t284 t285) else (if (wrap64 (a0_3 * t293)) > (wrap64 (a0_4 + (wrap64 (a0_5 * a0_0)))) then (backfilllaw11_ConfigLaws.j0 k t281 (wrap64 (a0_4 + (wrap64 (a0_5 * a0_0)))) true a0_0 a0_1 a0_2 a0_3 a0_4 a0_5 a0_6 a0_7 t282 t283 t284 t285) else ((config_Bound.f k a0_0 a0_1 a0_2 a0_3 a0_4 a0_5 a0_6 a0_7).bind fun t294 => (backfilllaw11_ConfigLaws.j0 k t281 (wrap64 (a0_4 + (wrap64 (a0_5 * a0_0)))) (t294 != (wrap64 ((wrap64 (t293 + 1)) + (wrap64 (a0_1 * a0_2))))) a0_0 a0_1 a0_2 a0_3 a0_4 a0_5 a0_6 a0_7 t282 t283 t284 t285))))) else (if t281 = true then ((config_Lead.f k a0_0 a0_1 a0_2 a0_3 a0_4 a0_5 a0_6 a0_7).bind fun t289 => (if t289 = 0 then ((config_Bound.f k a0_0 a0_1 a0_2 a0_3 a0_4 a0_5 a0_6 a0_7).bind fun t290 => (if t290 = 0 then ((config_Most.f k a0_0 a0_1 a0_2 a0_3 a0_4 a0_5 a0_6 a0_7).bind fun t291 => (if t291 = 0 then ((config_Floor.f k a0_0 a0_1 a0_2 a0_3 a0_4 a0_5 a0_6 a0_7).bind fun t292 => (if t292 = 0 then (if (t282 == 0 && (t283 == 0)) = true then (some (t284 == 0 && (t285 == 0))) else (none)) else (none))) else (none))) else (none))) else (none))) else (none))) = some r := H
 have A4 := Aside0.mk A40; clear A40
 by_cases c5 : t288 = 0
 ·rw [if_pos c5] at H
  have c5b0 : (t288 == 0) = true := beq_iff_eq.mpr c5
  have c5b1 : (t288 != 0) = false := bne_eq_false_iff_eq.mpr c5
  clear c5; replace H := Option.bind_eq_some_iff.mp H; obtain ⟨t293, A60, H⟩ := H; replace H : (if (wrap64 (a0_3 * (wrap64 (t293 + 1)))) ≤ (wrap64 (a0_4 + (wrap64 (a0_5 * a0_0)))) then (backfilllaw11_ConfigLaws.j0 k t281 (wrap64 (a0_4 + (wrap64 (a0_5 * a0_0)))) true a0_0 a0_1 a0_2 a0_3 a0_4 a0_5 a0_6 a0_7 t282 t283 t284 t285) else (if (wrap64 (a0_3 * t293)) > (wrap64 (a0_4 + (wrap64 (a0_5 * a0_0)))) then (backfilllaw11_ConfigLaws.j0 k t281 (wrap64 (a0_4 + (wrap64 (a0_5 * a0_0)))) true a0_0 a0_1 a0_2 a0_3 a0_4 a0_5 a0_6 a0_7 t282 t283 t284 t285) else ((config_Bound.f k a0_0 a0_1 a0_2 a0_3 a0_4 a0_5 a0_6 a0_7).bind fun t294 => (backfilllaw11_ConfigLaws.j0 k t281 (wrap64 (a0_4 + (wrap64 (a0_5 * a0_0)))) (t294 != (wrap64 ((wrap64 (t293 + 1)) + (wrap64 (a0_1 * a0_2))))) a0_0 a0_1 a0_2 a0_3 a0_4 a0_5 a0_6 a0_7 t282 t283 t284 t285)))) = some r := H; have A6 := Aside0.mk A60; clear A60
  have HC7 := Aside0.mk H
  clear H
  go_enter Try.func6, Try.ntmps6
  go_upto_region 7 with (first | ((with_reducible refine gate_dst (N := 1) rfl ?_); refine bxA 1 #[.int .i64 a0_0, .int .i64 a0_1, .int .i64 a0_2, .int .i64 a0_3, .int .i64 a0_4, .int .i64 a0_5, .int .i64 a0_6, .int .i64 a0_7] 39 ?_; intro gb280 hg w8 hbox hb; have n0_ := Aside0.mk (below_step bA hb); have n1_ := Aside0.mk (hbox); have n2_ := Aside0.mk (gwA hg bA); have n3_ := Aside0.mk (gwA hg bA); clear HB; have HB := n0_; have BK280 := n1_; have GW280 := n2_; have GE280 := n3_; clear n0_ n1_ n2_ n3_ hb hbox hg) | ((with_reducible refine gate_callee (f := 24) rfl ?_); refine goesL_ (some 15) rfl rfl Try.func24 (by kernel_rfl) rfl #[] rfl aA ?_; (with_reducible refine (backfilllaw11_shown.calls k  t281 _ A2.out).mono ?_); rintro e w9 ⟨rfl, hb⟩; refine ⟨_, rfl, ?_⟩; have n0_ := Aside0.mk (blk_below (g := gb280) kA hb); have n1_ := Aside0.mk (below_step bA hb); clear BK280 HB; have BK280 := n0_; have HB := n1_; clear n0_ n1_; (try clear hb); have hcz10_0 : w9.cell? ⟨gb280, 0, none⟩ = some (.int .i64 a0_0) := (blk_cell BK280.out 0).trans rfl; have hcz10_1 : w9.cell? ⟨gb280, 1, none⟩ = some (.int .i64 a0_1) := (blk_cell BK280.out 1).trans rfl; have hcz10_2 : w9.cell? ⟨gb280, 2, none⟩ = some (.int .i64 a0_2) := (blk_cell BK280.out 2).trans rfl; have hcz10_3 : w9.cell? ⟨gb280, 3, none⟩ = some (.int .i64 a0_3) := (blk_cell BK280.out 3).trans rfl; have hcz10_4 : w9.cell? ⟨gb280, 4, none⟩ = some (.int .i64 a0_4) := (blk_cell BK280.out 4).trans rfl; have hcz10_5 : w9.cell? ⟨gb280, 5, none⟩ = some (.int .i64 a0_5) := (blk_cell BK280.out 5).trans rfl; have hcz10_6 : w9.cell? ⟨gb280, 6, none⟩ = some (.int .i64 a0_6) := (blk_cell BK280.out 6).trans rfl; have hcz10_7 : w9.cell? ⟨gb280, 7, none⟩ = some (.int .i64 a0_7) := (blk_cell BK280.out 7).trans rfl; have hfz10_0 := blk_frozen BK280.out 0; have hfz10_1 := blk_frozen BK280.out 1; have hfz10_2 := blk_frozen BK280.out 2; have hfz10_3 := blk_frozen BK280.out 3; have hfz10_4 := blk_frozen BK280.out 4; have hfz10_5 := blk_frozen BK280.out 5; have hfz10_6 := blk_frozen BK280.out 6; have hfz10_7 := blk_frozen BK280.out 7) | ((with_reducible refine gate_callee (f := 25) rfl ?_); refine goesL_ (some 18) rfl rfl Try.func25 (by kernel_rfl) rfl #[.agg #[.int .i64 a0_0, .int .i64 a0_1, .int .i64 a0_2, .int .i64 a0_3, .int .i64 a0_4, .int .i64 a0_5, .int .i64 a0_6, .int .i64 a0_7]] rfl aA ?_; (with_reducible refine (config_Off.calls k a0_0 a0_1 a0_2 a0_3 a0_4 a0_5 a0_6 a0_7 t282 t283 t284 t285 _ A3.out).mono ?_); rintro e w11 ⟨rfl, hb⟩; refine ⟨_, rfl, ?_⟩; have n0_ := Aside0.mk (blk_below (g := gb280) kA hb); have n1_ := Aside0.mk (below_step bA hb); clear BK280 HB; have BK280 := n0_; have HB := n1_; clear n0_ n1_; (try clear hb)) | ((with_reducible refine gate_dst (N := 4) rfl ?_); refine bxA 4 #[.int .u64 0, .int .u64 0] 25 ?_; intro gb286 hg w12 hbox hb; have n0_ := Aside0.mk (blk_below (g := gb280) kA hb); have n1_ := Aside0.mk (below_step bA hb); have n2_ := Aside0.mk (hbox); have n3_ := Aside0.mk (gwA hg bA); have n4_ := Aside0.mk (gwA hg bA); have n5_ := Aside0.mk (neA (g := gb280) hg kA); have n6_ := Aside0.mk (neB (g := gb280) hg kA); clear BK280 HB; have BK280 := n0_; have HB := n1_; have BK286 := n2_; have GW286 := n3_; have GE286 := n4_; have NB280_286 := n5_; have NB286_280 := n6_; clear n0_ n1_ n2_ n3_ n4_ n5_ n6_ hb hbox hg) | ((with_reducible refine gate_dst (N := 5) rfl ?_); refine bxA 5 #[.int .u64 0, .int .u64 0] 25 ?_; intro gb287 hg w13 hbox hb; have n0_ := Aside0.mk (blk_below (g := gb280) kA hb); have n1_ := Aside0.mk (blk_below (g := gb286) kA hb); have n2_ := Aside0.mk (below_step bA hb); have n3_ := Aside0.mk (hbox); have n4_ := Aside0.mk (gwA hg bA); have n5_ := Aside0.mk (gwA hg bA); have n6_ := Aside0.mk (neA (g := gb280) hg kA); have n7_ := Aside0.mk (neB (g := gb280) hg kA); have n8_ := Aside0.mk (neA (g := gb286) hg kA); have n9_ := Aside0.mk (neB (g := gb286) hg kA); clear BK280 BK286 HB; have BK280 := n0_; have BK286 := n1_; have HB := n2_; have BK287 := n3_; have GW287 := n4_; have GE287 := n5_; have NB280_287 := n6_; have NB287_280 := n7_; have NB286_287 := n8_; have NB287_286 := n9_; clear n0_ n1_ n2_ n3_ n4_ n5_ n6_ n7_ n8_ n9_ hb hbox hg; have hnb14 := NB286_280.out; have hnc14 := NB280_286.out; have hnb15 := NB286_287.out; have hnc15 := NB287_286.out; have hcz16_0 : w13.cell? ⟨gb286, 0, none⟩ = some (.int .u64 0) := (blk_cell BK286.out 0).trans rfl; have hcz16_1 : w13.cell? ⟨gb286, 1, none⟩ = some (.int .u64 0) := (blk_cell BK286.out 1).trans rfl; have hfz16_0 := blk_frozen BK286.out 0; have hfz16_1 := blk_frozen BK286.out 1; have hnb17 := NB287_280.out; have hnc17 := NB280_287.out; have hcz18_0 : w13.cell? ⟨gb287, 0, none⟩ = some (.int .u64 0) := (blk_cell BK287.out 0).trans rfl; have hcz18_1 : w13.cell? ⟨gb287, 1, none⟩ = some (.int .u64 0) := (blk_cell BK287.out 1).trans rfl; have hfz18_0 := blk_frozen BK287.out 0; have hfz18_1 := blk_frozen BK287.out 1; have hcz19_0 : w13.cell? ⟨gb280, 0, none⟩ = some (.int .i64 a0_0) := (blk_cell BK280.out 0).trans rfl; have hcz19_1 : w13.cell? ⟨gb280, 1, none⟩ = some (.int .i64 a0_1) := (blk_cell BK280.out 1).trans rfl; have hcz19_2 : w13.cell? ⟨gb280, 2, none⟩ = some (.int .i64 a0_2) := (blk_cell BK280.out 2).trans rfl; have hcz19_3 : w13.cell? ⟨gb280, 3, none⟩ = some (.int .i64 a0_3) := (blk_cell BK280.out 3).trans rfl; have hcz19_4 : w13.cell? ⟨gb280, 4, none⟩ = some (.int .i64 a0_4) := (blk_cell BK280.out 4).trans rfl; have hcz19_5 : w13.cell? ⟨gb280, 5, none⟩ = some (.int .i64 a0_5) := (blk_cell BK280.out 5).trans rfl; have hcz19_6 : w13.cell? ⟨gb280, 6, none⟩ = some (.int .i64 a0_6) := (blk_cell BK280.out 6).trans rfl; have hcz19_7 : w13.cell? ⟨gb280, 7, none⟩ = some (.int .i64 a0_7) := (blk_cell BK280.out 7).trans rfl; have hfz19_0 := blk_frozen BK280.out 0; have hfz19_1 := blk_frozen BK280.out 1; have hfz19_2 := blk_frozen BK280.out 2; have hfz19_3 := blk_frozen BK280.out 3; have hfz19_4 := blk_frozen BK280.out 4; have hfz19_5 := blk_frozen BK280.out 5; have hfz19_6 := blk_frozen BK280.out 6; have hfz19_7 := blk_frozen BK280.out 7) | ((with_reducible refine gate_callee (f := 27) rfl ?_); refine goesL_ (some 22) rfl rfl Try.func27 (by kernel_rfl) rfl #[.agg #[.int .i64 a0_0, .int .i64 a0_1, .int .i64 a0_2, .int .i64 a0_3, .int .i64 a0_4, .int .i64 a0_5, .int .i64 a0_6, .int .i64 a0_7]] rfl aA ?_; (with_reducible refine (config_Check.calls k a0_0 a0_1 a0_2 a0_3 a0_4 a0_5 a0_6 a0_7 t288 _ A4.out).mono ?_); rintro e w20 ⟨rfl, hb⟩; refine ⟨_, rfl, ?_⟩; have n0_ := Aside0.mk (blk_below (g := gb280) (o := .cells #[.int .i64 a0_0, .int .i64 a0_1, .int .i64 a0_2, .int .i64 a0_3, .int .i64 a0_4, .int .i64 a0_5, .int .i64 a0_6, .int .i64 a0_7] 39 (0, 0)) (by (with_reducible repeat (first | refine blk_drewN ?_ _ | refine blk_drew ?_ | refine blk_alloc ?_ _)); refine blk_far ?_ NB280_287.out _; (with_reducible repeat (first | refine blk_drewN ?_ _ | refine blk_drew ?_ | refine blk_alloc ?_ _)); refine blk_far ?_ NB280_287.out _; (with_reducible repeat (first | refine blk_drewN ?_ _ | refine blk_drew ?_ | refine blk_alloc ?_ _)); refine blk_far ?_ NB280_286.out _; (with_reducible repeat (first | refine blk_drewN ?_ _ | refine blk_drew ?_ | refine blk_alloc ?_ _)); refine blk_far ?_ NB280_286.out _; exact kA) hb); have n1_ := Aside0.mk (blk_below (g := gb286) (o := .cells #[.int .u64 t282, .int .u64 t283] 25 (0, 0)) (by (with_reducible repeat (first | refine blk_drewN ?_ _ | refine blk_drew ?_ | refine blk_alloc ?_ _)); refine blk_far ?_ NB286_287.out _; (with_reducible repeat (first | refine blk_drewN ?_ _ | refine blk_drew ?_ | refine blk_alloc ?_ _)); refine blk_far ?_ NB286_287.out _; (with_reducible repeat (first | refine blk_drewN ?_ _ | refine blk_drew ?_ | refine blk_alloc ?_ _)); refine blk_put (cs := #[.int .u64 t282, .int .u64 0]) ?_ 1 _ rfl; (with_reducible repeat (first | refine blk_drewN ?_ _ | refine blk_drew ?_ | refine blk_alloc ?_ _)); refine blk_put (cs := #[.int .u64 0, .int .u64 0]) ?_ 0 _ rfl; exact kA) hb); have n2_ := Aside0.mk (blk_below (g := gb287) (o := .cells #[.int .u64 t284, .int .u64 t285] 25 (0, 0)) (by (with_reducible repeat (first | refine blk_drewN ?_ _ | refine blk_drew ?_ | refine blk_alloc ?_ _)); refine blk_put (cs := #[.int .u64 t284, .int .u64 0]) ?_ 1 _ rfl; (with_reducible repeat (first | refine blk_drewN ?_ _ | refine blk_drew ?_ | refine blk_alloc ?_ _)); refine blk_put (cs := #[.int .u64 0, .int .u64 0]) ?_ 0 _ rfl; (with_reducible repeat (first | refine blk_drewN ?_ _ | refine blk_drew ?_ | refine blk_alloc ?_ _)); refine blk_far ?_ NB287_286.out _; (with_reducible repeat (first | refine blk_drewN ?_ _ | refine blk_drew ?_ | refine blk_alloc ?_ _)); refine blk_far ?_ NB287_286.out _; exact kA) hb); have n3_ := Aside0.mk (below_step bA hb); clear BK280 BK286 BK287 HB; have BK280 := n0_; have BK286 := n1_; have BK287 := n2_; have HB := n3_; clear n0_ n1_ n2_ n3_; (try clear hb); have hcz21_0 : w20.cell? ⟨gb280, 0, none⟩ = some (.int .i64 a0_0) := (blk_cell BK280.out 0).trans rfl; have hcz21_1 : w20.cell? ⟨gb280, 1, none⟩ = some (.int .i64 a0_1) := (blk_cell BK280.out 1).trans rfl; have hcz21_2 : w20.cell? ⟨gb280, 2, none⟩ = some (.int .i64 a0_2) := (blk_cell BK280.out 2).trans rfl; have hcz21_3 : w20.cell? ⟨gb280, 3, none⟩ = some (.int .i64 a0_3) := (blk_cell BK280.out 3).trans rfl; have hcz21_4 : w20.cell? ⟨gb280, 4, none⟩ = some (.int .i64 a0_4) := (blk_cell BK280.out 4).trans rfl; have hcz21_5 : w20.cell? ⟨gb280, 5, none⟩ = some (.int .i64 a0_5) := (blk_cell BK280.out 5).trans rfl; have hcz21_6 : w20.cell? ⟨gb280, 6, none⟩ = some (.int .i64 a0_6) := (blk_cell BK280.out 6).trans rfl; have hcz21_7 : w20.cell? ⟨gb280, 7, none⟩ = some (.int .i64 a0_7) := (blk_cell BK280.out 7).trans rfl; have hfz21_0 := blk_frozen BK280.out 0; have hfz21_1 := blk_frozen BK280.out 1; have hfz21_2 := blk_frozen BK280.out 2; have hfz21_3 := blk_frozen BK280.out 3; have hfz21_4 := blk_frozen BK280.out 4; have hfz21_5 := blk_frozen BK280.out 5; have hfz21_6 := blk_frozen BK280.out 6; have hfz21_7 := blk_frozen BK280.out 7) | ((with_reducible refine gate_callee (f := 29) rfl ?_); refine goesL_ (some 56) rfl rfl Try.func29 (by kernel_rfl) rfl #[.agg #[.int .i64 a0_0, .int .i64 a0_1, .int .i64 a0_2, .int .i64 a0_3, .int .i64 a0_4, .int .i64 a0_5, .int .i64 a0_6, .int .i64 a0_7]] rfl aA ?_; (with_reducible refine (config_Lead.calls k a0_0 a0_1 a0_2 a0_3 a0_4 a0_5 a0_6 a0_7 t293 _ A6.out).mono ?_); rintro e w22 ⟨rfl, hb⟩; refine ⟨_, rfl, ?_⟩; have n0_ := Aside0.mk (blk_below (g := gb280) kA hb); have n1_ := Aside0.mk (blk_below (g := gb286) kA hb); have n2_ := Aside0.mk (blk_below (g := gb287) kA hb); have n3_ := Aside0.mk (below_step bA hb); clear BK280 BK286 BK287 HB; have BK280 := n0_; have BK286 := n1_; have BK287 := n2_; have HB := n3_; clear n0_ n1_ n2_ n3_; (try clear hb); have hcz23_0 : w22.cell? ⟨gb280, 0, none⟩ = some (.int .i64 a0_0) := (blk_cell BK280.out 0).trans rfl; have hcz23_1 : w22.cell? ⟨gb280, 1, none⟩ = some (.int .i64 a0_1) := (blk_cell BK280.out 1).trans rfl; have hcz23_2 : w22.cell? ⟨gb280, 2, none⟩ = some (.int .i64 a0_2) := (blk_cell BK280.out 2).trans rfl; have hcz23_3 : w22.cell? ⟨gb280, 3, none⟩ = some (.int .i64 a0_3) := (blk_cell BK280.out 3).trans rfl; have hcz23_4 : w22.cell? ⟨gb280, 4, none⟩ = some (.int .i64 a0_4) := (blk_cell BK280.out 4).trans rfl; have hcz23_5 : w22.cell? ⟨gb280, 5, none⟩ = some (.int .i64 a0_5) := (blk_cell BK280.out 5).trans rfl; have hcz23_6 : w22.cell? ⟨gb280, 6, none⟩ = some (.int .i64 a0_6) := (blk_cell BK280.out 6).trans rfl; have hcz23_7 : w22.cell? ⟨gb280, 7, none⟩ = some (.int .i64 a0_7) := (blk_cell BK280.out 7).trans rfl; have hfz23_0 := blk_frozen BK280.out 0; have hfz23_1 := blk_frozen BK280.out 1; have hfz23_2 := blk_frozen BK280.out 2; have hfz23_3 := blk_frozen BK280.out 3; have hfz23_4 := blk_frozen BK280.out 4; have hfz23_5 := blk_frozen BK280.out 5; have hfz23_6 := blk_frozen BK280.out 6; have hfz23_7 := blk_frozen BK280.out 7))
  (try simp only [Act.put, List.setIfInBounds_toArray, List.set_cons_zero, List.set_cons_succ])
  go_cut [92] (fun v92 wc => ∃ (kq : Nat) (x92_6 : Bool), v92 = .bool x92_6 ∧ Aside0 (backfilllaw11_ConfigLaws.j0 kq t281 (wrap64 (a0_4 + (wrap64 (a0_5 * a0_0)))) x92_6 a0_0 a0_1 a0_2 a0_3 a0_4 a0_5 a0_6 a0_7 t282 t283 t284 t285 = some r) ∧ Aside0 (kq ≤ k) ∧ Aside0 (wc.heap[gb280]? = some (.cells #[.int .i64 a0_0, .int .i64 a0_1, .int .i64 a0_2, .int .i64 a0_3, .int .i64 a0_4, .int .i64 a0_5, .int .i64 a0_6, .int .i64 a0_7] 39 (0, 0))) ∧ Aside0 (wc.heap[gb286]? = some (.cells #[.int .u64 t282, .int .u64 t283] 25 (0, 0))) ∧ Aside0 (wc.heap[gb287]? = some (.cells #[.int .u64 t284, .int .u64 t285] 25 (0, 0))) ∧ Aside0 (Below w.heap.size w wc))
  case first =>
   have H := HC7.out
   clear HC7
   by_cases c24 : (wrap64 (a0_3 * (wrap64 (t293 + 1)))) ≤ (wrap64 (a0_4 + (wrap64 (a0_5 * a0_0))))
   ·rw [if_pos c24] at H
    have c24b0 : decide ((wrap64 (a0_3 * (wrap64 (t293 + 1)))) ≤ (wrap64 (a0_4 + (wrap64 (a0_5 * a0_0))))) = true := decide_eq_true c24
    clear c24
    (first | rw [c24b0] | (simp only [i64_w, i32_w]; rw [c24b0]) | skip)
    have H' := Aside0.mk H
    clear H
    try go_wp2
    have n0_ := Aside0.mk (blk_drew BK280.out); have n1_ := Aside0.mk (blk_drew BK286.out); have n2_ := Aside0.mk (blk_drew BK287.out); have n3_ := Aside0.mk (below_drew1 HB.out); clear BK280 BK286 BK287 HB; have BK280 := n0_; have BK286 := n1_; have BK287 := n2_; have HB := n3_; clear n0_ n1_ n2_ n3_
    refine start_ (n := 28) (S := fun w' => w'.cell? ⟨gb280, 0, none⟩ = some (.int .i64 a0_0) ∧ w'.cell? ⟨gb280, 1, none⟩ = some (.int .i64 a0_1) ∧ w'.cell? ⟨gb280, 2, none⟩ = some (.int .i64 a0_2) ∧ w'.cell? ⟨gb280, 3, none⟩ = some (.int .i64 a0_3) ∧ w'.cell? ⟨gb280, 4, none⟩ = some (.int .i64 a0_4) ∧ w'.cell? ⟨gb280, 5, none⟩ = some (.int .i64 a0_5) ∧ w'.cell? ⟨gb280, 6, none⟩ = some (.int .i64 a0_6) ∧ w'.cell? ⟨gb280, 7, none⟩ = some (.int .i64 a0_7)) (ds := []) #[false, false, false, false, false, false, false, false, false, false, false, false, false, false, false, false, false, false, false, false, false, false, false, false, false, false, false, false] (by kernel_rfl) rfl rfl ⟨(blk_cell BK280.out 0).trans rfl, (blk_cell BK280.out 1).trans rfl, (blk_cell BK280.out 2).trans rfl, (blk_cell BK280.out 3).trans rfl, (blk_cell BK280.out 4).trans rfl, (blk_cell BK280.out 5).trans rfl, (blk_cell BK280.out 6).trans rfl, (blk_cell BK280.out 7).trans rfl⟩ (fun hHeld => ?_); refine with_tabW backfilllaw11_ConfigLaws.tab7 backfilllaw11_ConfigLaws.bits7 (fun HT_ HW_ => ?_)
    generalize w22.drew = w25 at BK280 BK286 BK287 HB hHeld ⊢
    refine pure_ (i := 0) (N := some 65) (v := ?_) (a' := ?_) #[true, false, false, false, false, false, false, false, false, false, false, false, false, false, false, false, false, false, false, false, false, false, false, false, false, false, false, false] rfl rfl (any_of HT_.out (by kernel_rfl)) (fun _ _ _ h => h) (Or.inl ⟨by rfl, ?_⟩) ?_ ?_
    rotate_left
    ·intro w'
     go_simp; with_reducible rfl
    rotate_left
    ·simp only [Act.put, List.setIfInBounds_toArray, List.set_cons_zero, List.set_cons_succ, i64_w, i32_w]
     rfl
    refine pure_ (i := 2) (N := some 67) (v := ?_) (a' := ?_) #[true, false, true, false, false, false, false, false, false, false, false, false, false, false, false, false, false, false, false, false, false, false, false, false, false, false, false, false] rfl rfl (any_of HT_.out (by kernel_rfl)) (fun _ _ _ h => h) (Or.inl ⟨by rfl, ?_⟩) ?_ ?_
    rotate_left
    ·intro w'
     go_simp; with_reducible rfl
    rotate_left
    ·simp only [Act.put, List.setIfInBounds_toArray, List.set_cons_zero, List.set_cons_succ, i64_w, i32_w]
     rfl
    refine pure_ (i := 3) (N := some 68) (v := ?_) (a' := ?_) #[true, false, true, true, false, false, false, false, false, false, false, false, false, false, false, false, false, false, false, false, false, false, false, false, false, false, false, false] rfl rfl (any_of HT_.out (by kernel_rfl)) (fun _ _ _ h => h) (Or.inl ⟨by rfl, ?_⟩) ?_ ?_
    rotate_left
    ·intro w'
     go_simp; with_reducible rfl
    rotate_left
    ·simp only [Act.put, List.setIfInBounds_toArray, List.set_cons_zero, List.set_cons_succ, i64_w, i32_w]
     rfl
    refine pure_ (i := 5) (N := some 70) (v := ?_) (a' := ?_) #[true, false, true, true, false, true, false, false, false, false, false, false, false, false, false, false, false, false, false, false, false, false, false, false, false, false, false, false] rfl rfl (any_of HT_.out (by kernel_rfl)) (fun _ _ _ h => h) (Or.inl ⟨by rfl, ?_⟩) ?_ ?_
    rotate_left
    ·intro w'
     go_simp; with_reducible rfl
    rotate_left
    ·simp only [Act.put, List.setIfInBounds_toArray, List.set_cons_zero, List.set_cons_succ, i64_w, i32_w]
     rfl
    refine take_ (i := 1) (N := some 66) (v := ?_) (a' := ?_) #[true, true, true, true, false, true, false, false, false, false, false, false, false, false, false, false, false, false, false, false, false, false, false, false, false, false, false, false] rfl rfl (take_ofW HT_.out HW_.out (by kernel_rfl)) (fun _ _ _ h => h) (Or.inl ⟨by rfl, ?_⟩) hHeld ?_ ?_
    rotate_left
    ·rintro w' ⟨s0, s1, s2, s3, s4, s5, s6, s7⟩
     go_simp; with_reducible rfl
    rotate_left
    ·simp only [Act.put, List.setIfInBounds_toArray, List.set_cons_zero, List.set_cons_succ, i64_w, i32_w]
     rfl
    refine pure_ (i := 4) (N := some 69) (v := ?_) (a' := ?_) #[true, true, true, true, true, true, false, false, false, false, false, false, false, false, false, false, false, false, false, false, false, false, false, false, false, false, false, false] rfl rfl (any_of HT_.out (by kernel_rfl)) (fun _ _ _ h => h) (Or.inl ⟨by rfl, ?_⟩) ?_ ?_
    rotate_left
    ·intro w'
     go_simp; with_reducible rfl
    rotate_left
    ·simp only [Act.put, List.setIfInBounds_toArray, List.set_cons_zero, List.set_cons_succ, i64_w, i32_w]
     rfl
    refine pure_ (i := 6) (N := some 71) (v := ?_) (a' := ?_) #[true, true, true, true, true, true, true, false, false, false, false, false, false, false, false, false, false, false, false, false, false, false, false, false, false, false, false, false] rfl rfl (any_of HT_.out (by kernel_rfl)) (fun _ _ _ h => h) (Or.inl ⟨by rfl, ?_⟩) ?_ ?_
    rotate_left
    ·intro w'
     go_simp; with_reducible rfl
    rotate_left
    ·simp only [Act.put, List.setIfInBounds_toArray, List.set_cons_zero, List.set_cons_succ, i64_w, i32_w]
     rfl
    refine pure_ (i := 7) (N := some 72) (v := ?_) (a' := ?_) #[true, true, true, true, true, true, true, true, false, false, false, false, false, false, false, false, false, false, false, false, false, false, false, false, false, false, false, false] rfl rfl (any_of HT_.out (by kernel_rfl)) (fun _ _ _ h => h) (Or.inl ⟨by rfl, ?_⟩) ?_ ?_
    rotate_left
    ·intro w'
     go_simp; with_reducible rfl
    rotate_left
    ·simp only [Act.put, List.setIfInBounds_toArray, List.set_cons_zero, List.set_cons_succ, i64_w, i32_w]
     rfl
    refine pure_ (i := 8) (N := some 73) (v := undef) (a' := ?_) #[true, true, true, true, true, true, true, true, true, false, false, false, false, false, false, false, false, false, false, false, false, false, false, false, false, false, false, false] rfl rfl (any_of HT_.out (by kernel_rfl)) (fun _ _ _ h => h) (Or.inr ⟨by rfl, rfl⟩) ?_ ?_
    rotate_left
    ·simp only [Act.put, List.setIfInBounds_toArray, List.set_cons_zero, List.set_cons_succ, i64_w, i32_w]
     rfl
    refine pure_ (i := 9) (N := some 74) (v := undef) (a' := ?_) #[true, true, true, true, true, true, true, true, true, true, false, false, false, false, false, false, false, false, false, false, false, false, false, false, false, false, false, false] rfl rfl (any_of HT_.out (by kernel_rfl)) (fun _ _ _ h => h) (Or.inr ⟨by rfl, rfl⟩) ?_ ?_
    rotate_left
    ·simp only [Act.put, List.setIfInBounds_toArray, List.set_cons_zero, List.set_cons_succ, i64_w, i32_w]
     rfl
    refine pure_ (i := 10) (N := some 75) (v := undef) (a' := ?_) #[true, true, true, true, true, true, true, true, true, true, true, false, false, false, false, false, false, false, false, false, false, false, false, false, false, false, false, false] rfl rfl (any_of HT_.out (by kernel_rfl)) (fun _ _ _ h => h) (Or.inr ⟨by rfl, rfl⟩) ?_ ?_
    rotate_left
    ·simp only [Act.put, List.setIfInBounds_toArray, List.set_cons_zero, List.set_cons_succ, i64_w, i32_w]
     rfl
    refine pure_ (i := 11) (N := some 76) (v := undef) (a' := ?_) #[true, true, true, true, true, true, true, true, true, true, true, true, false, false, false, false, false, false, false, false, false, false, false, false, false, false, false, false] rfl rfl (any_of HT_.out (by kernel_rfl)) (fun _ _ _ h => h) (Or.inr ⟨by rfl, rfl⟩) ?_ ?_
    rotate_left
    ·simp only [Act.put, List.setIfInBounds_toArray, List.set_cons_zero, List.set_cons_succ, i64_w, i32_w]
     rfl
    refine pure_ (i := 12) (N := some 77) (v := undef) (a' := ?_) #[true, true, true, true, true, true, true, true, true, true, true, true, true, false, false, false, false, false, false, false, false, false, false, false, false, false, false, false] rfl rfl (any_of HT_.out (by kernel_rfl)) (fun _ _ _ h => h) (Or.inr ⟨by rfl, rfl⟩) ?_ ?_
    rotate_left
    ·simp only [Act.put, List.setIfInBounds_toArray, List.set_cons_zero, List.set_cons_succ, i64_w, i32_w]
     rfl
    refine pure_ (i := 13) (N := some 78) (v := undef) (a' := ?_) #[true, true, true, true, true, true, true, true, true, true, true, true, true, true, false, false, false, false, false, false, false, false, false, false, false, false, false, false] rfl rfl (any_of HT_.out (by kernel_rfl)) (fun _ _ _ h => h) (Or.inr ⟨by rfl, rfl⟩) ?_ ?_
    rotate_left
    ·simp only [Act.put, List.setIfInBounds_toArray, List.set_cons_zero, List.set_cons_succ, i64_w, i32_w]
     rfl
    refine pure_ (i := 14) (N := some 79) (v := ?_) (a' := ?_) #[true, true, true, true, true, true, true, true, true, true, true, true, true, true, true, false, false, false, false, false, false, false, false, false, false, false, false, false] rfl rfl (any_of HT_.out (by kernel_rfl)) (fun _ _ _ h => h) (Or.inl ⟨by rfl, ?_⟩) ?_ ?_
    rotate_left
    ·intro w'
     go_simp; with_reducible rfl
    rotate_left
    ·simp only [Act.put, List.setIfInBounds_toArray, List.set_cons_zero, List.set_cons_succ, i64_w, i32_w]
     rfl
    refine pure_ (i := 15) (N := some 80) (v := ?_) (a' := ?_) #[true, true, true, true, true, true, true, true, true, true, true, true, true, true, true, true, false, false, false, false, false, false, false, false, false, false, false, false] rfl rfl (any_of HT_.out (by kernel_rfl)) (fun _ _ _ h => h) (Or.inl ⟨by rfl, ?_⟩) ?_ ?_
    rotate_left
    ·intro w'
     go_simp; with_reducible rfl
    rotate_left
    ·simp only [Act.put, List.setIfInBounds_toArray, List.set_cons_zero, List.set_cons_succ, i64_w, i32_w]
     rfl
    refine pure_ (i := 16) (N := some 81) (v := undef) (a' := ?_) #[true, true, true, true, true, true, true, true, true, true, true, true, true, true, true, true, true, false, false, false, false, false, false, false, false, false, false, false] rfl rfl (any_of HT_.out (by kernel_rfl)) (fun _ _ _ h => h) (Or.inr ⟨by rfl, rfl⟩) ?_ ?_
    rotate_left
    ·simp only [Act.put, List.setIfInBounds_toArray, List.set_cons_zero, List.set_cons_succ, i64_w, i32_w]
     rfl
    refine pure_ (i := 17) (N := some 82) (v := undef) (a' := ?_) #[true, true, true, true, true, true, true, true, true, true, true, true, true, true, true, true, true, true, false, false, false, false, false, false, false, false, false, false] rfl rfl (any_of HT_.out (by kernel_rfl)) (fun _ _ _ h => h) (Or.inr ⟨by rfl, rfl⟩) ?_ ?_
    rotate_left
    ·simp only [Act.put, List.setIfInBounds_toArray, List.set_cons_zero, List.set_cons_succ, i64_w, i32_w]
     rfl
    refine pure_ (i := 18) (N := some 83) (v := undef) (a' := ?_) #[true, true, true, true, true, true, true, true, true, true, true, true, true, true, true, true, true, true, true, false, false, false, false, false, false, false, false, false] rfl rfl (any_of HT_.out (by kernel_rfl)) (fun _ _ _ h => h) (Or.inr ⟨by rfl, rfl⟩) ?_ ?_
    rotate_left
    ·simp only [Act.put, List.setIfInBounds_toArray, List.set_cons_zero, List.set_cons_succ, i64_w, i32_w]
     rfl
    refine pure_ (i := 19) (N := some 84) (v := undef) (a' := ?_) #[true, true, true, true, true, true, true, true, true, true, true, true, true, true, true, true, true, true, true, true, false, false, false, false, false, false, false, false] rfl rfl (any_of HT_.out (by kernel_rfl)) (fun _ _ _ h => h) (Or.inr ⟨by rfl, rfl⟩) ?_ ?_
    rotate_left
    ·simp only [Act.put, List.setIfInBounds_toArray, List.set_cons_zero, List.set_cons_succ, i64_w, i32_w]
     rfl
    refine pure_ (i := 20) (N := some 85) (v := undef) (a' := ?_) #[true, true, true, true, true, true, true, true, true, true, true, true, true, true, true, true, true, true, true, true, true, false, false, false, false, false, false, false] rfl rfl (any_of HT_.out (by kernel_rfl)) (fun _ _ _ h => h) (Or.inr ⟨by rfl, rfl⟩) ?_ ?_
    rotate_left
    ·simp only [Act.put, List.setIfInBounds_toArray, List.set_cons_zero, List.set_cons_succ, i64_w, i32_w]
     rfl
    refine pure_ (i := 21) (N := some 86) (v := undef) (a' := ?_) #[true, true, true, true, true, true, true, true, true, true, true, true, true, true, true, true, true, true, true, true, true, true, false, false, false, false, false, false] rfl rfl (any_of HT_.out (by kernel_rfl)) (fun _ _ _ h => h) (Or.inr ⟨by rfl, rfl⟩) ?_ ?_
    rotate_left
    ·simp only [Act.put, List.setIfInBounds_toArray, List.set_cons_zero, List.set_cons_succ, i64_w, i32_w]
     rfl
    refine pure_ (i := 22) (N := some 87) (v := undef) (a' := ?_) #[true, true, true, true, true, true, true, true, true, true, true, true, true, true, true, true, true, true, true, true, true, true, true, false, false, false, false, false] rfl rfl (any_of HT_.out (by kernel_rfl)) (fun _ _ _ h => h) (Or.inr ⟨by rfl, rfl⟩) ?_ ?_
    rotate_left
    ·simp only [Act.put, List.setIfInBounds_toArray, List.set_cons_zero, List.set_cons_succ, i64_w, i32_w]
     rfl
    refine pure_ (i := 23) (N := some 88) (v := undef) (a' := ?_) #[true, true, true, true, true, true, true, true, true, true, true, true, true, true, true, true, true, true, true, true, true, true, true, true, false, false, false, false] rfl rfl (any_of HT_.out (by kernel_rfl)) (fun _ _ _ h => h) (Or.inr ⟨by rfl, rfl⟩) ?_ ?_
    rotate_left
    ·simp only [Act.put, List.setIfInBounds_toArray, List.set_cons_zero, List.set_cons_succ, i64_w, i32_w]
     rfl
    refine pure_ (i := 24) (N := some 89) (v := undef) (a' := ?_) #[true, true, true, true, true, true, true, true, true, true, true, true, true, true, true, true, true, true, true, true, true, true, true, true, true, false, false, false] rfl rfl (any_of HT_.out (by kernel_rfl)) (fun _ _ _ h => h) (Or.inr ⟨by rfl, rfl⟩) ?_ ?_
    rotate_left
    ·simp only [Act.put, List.setIfInBounds_toArray, List.set_cons_zero, List.set_cons_succ, i64_w, i32_w]
     rfl
    refine pure_ (i := 25) (N := some 90) (v := undef) (a' := ?_) #[true, true, true, true, true, true, true, true, true, true, true, true, true, true, true, true, true, true, true, true, true, true, true, true, true, true, false, false] rfl rfl (any_of HT_.out (by kernel_rfl)) (fun _ _ _ h => h) (Or.inr ⟨by rfl, rfl⟩) ?_ ?_
    rotate_left
    ·simp only [Act.put, List.setIfInBounds_toArray, List.set_cons_zero, List.set_cons_succ, i64_w, i32_w]
     rfl
    refine pure_ (i := 26) (N := some 91) (v := undef) (a' := ?_) #[true, true, true, true, true, true, true, true, true, true, true, true, true, true, true, true, true, true, true, true, true, true, true, true, true, true, true, false] rfl rfl (any_of HT_.out (by kernel_rfl)) (fun _ _ _ h => h) (Or.inr ⟨by rfl, rfl⟩) ?_ ?_
    rotate_left
    ·simp only [Act.put, List.setIfInBounds_toArray, List.set_cons_zero, List.set_cons_succ, i64_w, i32_w]
     rfl
    refine pure_ (i := 27) (N := some 92) (v := ?_) (a' := ?_) #[true, true, true, true, true, true, true, true, true, true, true, true, true, true, true, true, true, true, true, true, true, true, true, true, true, true, true, true] rfl rfl (any_of HT_.out (by kernel_rfl)) (fun _ _ _ h => h) (Or.inl ⟨by rfl, ?_⟩) ?_ ?_
    rotate_left
    ·intro w'
     go_simp; with_reducible rfl
    rotate_left
    ·simp only [Act.put, List.setIfInBounds_toArray, List.set_cons_zero, List.set_cons_succ, i64_w, i32_w]
     rfl
    refine done_ (done_of HT_.out (by kernel_rfl)) ?_
    try go_wp2
    go_meet
    case rel => exact ⟨_, (true), (by first | rfl | (simp; done) | (simp [*]; done)), H', ⟨by first | omega | exact Nat.le_refl _⟩, ⟨by exact kA⟩, ⟨by exact kA⟩, ⟨by exact kA⟩, ⟨bA⟩⟩
   ·rw [if_neg c24] at H
    have c24b0 : decide ((wrap64 (a0_3 * (wrap64 (t293 + 1)))) ≤ (wrap64 (a0_4 + (wrap64 (a0_5 * a0_0))))) = false := decide_eq_false c24
    clear c24
    (first | rw [c24b0] | (simp only [i64_w, i32_w]; rw [c24b0]) | skip)
    by_cases c26 : (wrap64 (a0_3 * t293)) > (wrap64 (a0_4 + (wrap64 (a0_5 * a0_0))))
    ·rw [if_pos c26] at H
     have c26b0 : decide ((wrap64 (a0_4 + (wrap64 (a0_5 * a0_0)))) < (wrap64 (a0_3 * t293))) = true := decide_eq_true c26
     clear c26
     have H' := Aside0.mk H
     clear H
     try go_wp2
     have n0_ := Aside0.mk (blk_drew BK280.out); have n1_ := Aside0.mk (blk_drew BK286.out); have n2_ := Aside0.mk (blk_drew BK287.out); have n3_ := Aside0.mk (below_drew1 HB.out); clear BK280 BK286 BK287 HB; have BK280 := n0_; have BK286 := n1_; have BK287 := n2_; have HB := n3_; clear n0_ n1_ n2_ n3_
     refine start_ (n := 28) (S := fun w' => w'.cell? ⟨gb280, 0, none⟩ = some (.int .i64 a0_0) ∧ w'.cell? ⟨gb280, 1, none⟩ = some (.int .i64 a0_1) ∧ w'.cell? ⟨gb280, 2, none⟩ = some (.int .i64 a0_2) ∧ w'.cell? ⟨gb280, 3, none⟩ = some (.int .i64 a0_3) ∧ w'.cell? ⟨gb280, 4, none⟩ = some (.int .i64 a0_4) ∧ w'.cell? ⟨gb280, 5, none⟩ = some (.int .i64 a0_5) ∧ w'.cell? ⟨gb280, 6, none⟩ = some (.int .i64 a0_6) ∧ w'.cell? ⟨gb280, 7, none⟩ = some (.int .i64 a0_7)) (ds := []) #[false, false, false, false, false, false, false, false, false, false, false, false, false, false, false, false, false, false, false, false, false, false, false, false, false, false, false, false] (by kernel_rfl) rfl rfl ⟨(blk_cell BK280.out 0).trans rfl, (blk_cell BK280.out 1).trans rfl, (blk_cell BK280.out 2).trans rfl, (blk_cell BK280.out 3).trans rfl, (blk_cell BK280.out 4).trans rfl, (blk_cell BK280.out 5).trans rfl, (blk_cell BK280.out 6).trans rfl, (blk_cell BK280.out 7).trans rfl⟩ (fun hHeld => ?_); refine with_tabW backfilllaw11_ConfigLaws.tab7 backfilllaw11_ConfigLaws.bits7 (fun HT_ HW_ => ?_)
     generalize w22.drew = w27 at BK280 BK286 BK287 HB hHeld ⊢
     refine pure_ (i := 0) (N := some 65) (v := ?_) (a' := ?_) #[true, false, false, false, false, false, false, false, false, false, false, false, false, false, false, false, false, false, false, false, false, false, false, false, false, false, false, false] rfl rfl (any_of HT_.out (by kernel_rfl)) (fun _ _ _ h => h) (Or.inl ⟨by rfl, ?_⟩) ?_ ?_
     rotate_left
     ·intro w'
      go_simp; with_reducible rfl
     rotate_left
     ·simp only [Act.put, List.setIfInBounds_toArray, List.set_cons_zero, List.set_cons_succ, i64_w, i32_w]
      rfl
     refine pure_ (i := 2) (N := some 67) (v := ?_) (a' := ?_) #[true, false, true, false, false, false, false, false, false, false, false, false, false, false, false, false, false, false, false, false, false, false, false, false, false, false, false, false] rfl rfl (any_of HT_.out (by kernel_rfl)) (fun _ _ _ h => h) (Or.inl ⟨by rfl, ?_⟩) ?_ ?_
     rotate_left
     ·intro w'
      go_simp; with_reducible rfl
     rotate_left
     ·simp only [Act.put, List.setIfInBounds_toArray, List.set_cons_zero, List.set_cons_succ, i64_w, i32_w]
      rfl
     refine pure_ (i := 3) (N := some 68) (v := ?_) (a' := ?_) #[true, false, true, true, false, false, false, false, false, false, false, false, false, false, false, false, false, false, false, false, false, false, false, false, false, false, false, false] rfl rfl (any_of HT_.out (by kernel_rfl)) (fun _ _ _ h => h) (Or.inl ⟨by rfl, ?_⟩) ?_ ?_
     rotate_left
     ·intro w'
      go_simp; with_reducible rfl
     rotate_left
     ·simp only [Act.put, List.setIfInBounds_toArray, List.set_cons_zero, List.set_cons_succ, i64_w, i32_w]
      rfl
     refine pure_ (i := 5) (N := some 70) (v := ?_) (a' := ?_) #[true, false, true, true, false, true, false, false, false, false, false, false, false, false, false, false, false, false, false, false, false, false, false, false, false, false, false, false] rfl rfl (any_of HT_.out (by kernel_rfl)) (fun _ _ _ h => h) (Or.inl ⟨by rfl, ?_⟩) ?_ ?_
     rotate_left
     ·intro w'
      go_simp; with_reducible rfl
     rotate_left
     ·simp only [Act.put, List.setIfInBounds_toArray, List.set_cons_zero, List.set_cons_succ, i64_w, i32_w]
      rfl
     refine take_ (i := 1) (N := some 66) (v := ?_) (a' := ?_) #[true, true, true, true, false, true, false, false, false, false, false, false, false, false, false, false, false, false, false, false, false, false, false, false, false, false, false, false] rfl rfl (take_ofW HT_.out HW_.out (by kernel_rfl)) (fun _ _ _ h => h) (Or.inl ⟨by rfl, ?_⟩) hHeld ?_ ?_
     rotate_left
     ·rintro w' ⟨s0, s1, s2, s3, s4, s5, s6, s7⟩
      go_simp; with_reducible rfl
     rotate_left
     ·simp only [Act.put, List.setIfInBounds_toArray, List.set_cons_zero, List.set_cons_succ, i64_w, i32_w]
      rfl
     refine pure_ (i := 4) (N := some 69) (v := ?_) (a' := ?_) #[true, true, true, true, true, true, false, false, false, false, false, false, false, false, false, false, false, false, false, false, false, false, false, false, false, false, false, false] rfl rfl (any_of HT_.out (by kernel_rfl)) (fun _ _ _ h => h) (Or.inl ⟨by rfl, ?_⟩) ?_ ?_
     rotate_left
     ·intro w'
      go_simp; with_reducible rfl
     rotate_left
     ·simp only [Act.put, List.setIfInBounds_toArray, List.set_cons_zero, List.set_cons_succ, i64_w, i32_w]
      rfl
     refine pure_ (i := 6) (N := some 71) (v := ?_) (a' := ?_) #[true, true, true, true, true, true, true, false, false, false, false, false, false, false, false, false, false, false, false, false, false, false, false, false, false, false, false, false] rfl rfl (any_of HT_.out (by kernel_rfl)) (fun _ _ _ h => h) (Or.inl ⟨by rfl, ?_⟩) ?_ ?_
     rotate_left
     ·intro w'
      go_simp; with_reducible rfl
     rotate_left
     ·simp only [Act.put, List.setIfInBounds_toArray, List.set_cons_zero, List.set_cons_succ, i64_w, i32_w]
      rfl
     refine pure_ (i := 7) (N := some 72) (v := ?_) (a' := ?_) #[true, true, true, true, true, true, true, true, false, false, false, false, false, false, false, false, false, false, false, false, false, false, false, false, false, false, false, false] rfl rfl (any_of HT_.out (by kernel_rfl)) (fun _ _ _ h => h) (Or.inl ⟨by rfl, ?_⟩) ?_ ?_
     rotate_left
     ·intro w'
      go_simp; with_reducible rfl
     rotate_left
     ·simp only [Act.put, List.setIfInBounds_toArray, List.set_cons_zero, List.set_cons_succ, i64_w, i32_w]
      rfl
     refine pure_ (i := 8) (N := some 73) (v := ?_) (a' := ?_) #[true, true, true, true, true, true, true, true, true, false, false, false, false, false, false, false, false, false, false, false, false, false, false, false, false, false, false, false] rfl rfl (any_of HT_.out (by kernel_rfl)) (fun _ _ _ h => h) (Or.inl ⟨by rfl, ?_⟩) ?_ ?_
     rotate_left
     ·intro w'
      go_simp; with_reducible rfl
     rotate_left
     ·simp only [Act.put, List.setIfInBounds_toArray, List.set_cons_zero, List.set_cons_succ, i64_w, i32_w]
      rfl
     refine pure_ (i := 10) (N := some 75) (v := ?_) (a' := ?_) #[true, true, true, true, true, true, true, true, true, false, true, false, false, false, false, false, false, false, false, false, false, false, false, false, false, false, false, false] rfl rfl (any_of HT_.out (by kernel_rfl)) (fun _ _ _ h => h) (Or.inl ⟨by rfl, ?_⟩) ?_ ?_
     rotate_left
     ·intro w'
      go_simp; with_reducible rfl
     rotate_left
     ·simp only [Act.put, List.setIfInBounds_toArray, List.set_cons_zero, List.set_cons_succ, i64_w, i32_w]
      rfl
     refine pure_ (i := 12) (N := some 77) (v := ?_) (a' := ?_) #[true, true, true, true, true, true, true, true, true, false, true, false, true, false, false, false, false, false, false, false, false, false, false, false, false, false, false, false] rfl rfl (any_of HT_.out (by kernel_rfl)) (fun _ _ _ h => h) (Or.inl ⟨by rfl, ?_⟩) ?_ ?_
     rotate_left
     ·intro w'
      go_simp; with_reducible rfl
     rotate_left
     ·simp only [Act.put, List.setIfInBounds_toArray, List.set_cons_zero, List.set_cons_succ, i64_w, i32_w]
      rfl
     refine take_ (i := 9) (N := some 74) (v := ?_) (a' := ?_) #[true, true, true, true, true, true, true, true, true, true, true, false, true, false, false, false, false, false, false, false, false, false, false, false, false, false, false, false] rfl rfl (take_ofW HT_.out HW_.out (by kernel_rfl)) (fun _ _ _ h => h) (Or.inl ⟨by rfl, ?_⟩) hHeld ?_ ?_
     rotate_left
     ·rintro w' ⟨s0, s1, s2, s3, s4, s5, s6, s7⟩
      go_simp; with_reducible rfl
     rotate_left
     ·simp only [Act.put, List.setIfInBounds_toArray, List.set_cons_zero, List.set_cons_succ, i64_w, i32_w]
      rfl
     refine pure_ (i := 11) (N := some 76) (v := ?_) (a' := ?_) #[true, true, true, true, true, true, true, true, true, true, true, true, true, false, false, false, false, false, false, false, false, false, false, false, false, false, false, false] rfl rfl (any_of HT_.out (by kernel_rfl)) (fun _ _ _ h => h) (Or.inl ⟨by rfl, ?_⟩) ?_ ?_
     rotate_left
     ·intro w'
      go_simp; with_reducible rfl
     rotate_left
     ·simp only [Act.put, List.setIfInBounds_toArray, List.set_cons_zero, List.set_cons_succ, i64_w, i32_w]
      rfl
     refine pure_ (i := 13) (N := some 78) (v := ?_) (a' := ?_) #[true, true, true, true, true, true, true, true, true, true, true, true, true, true, false, false, false, false, false, false, false, false, false, false, false, false, false, false] rfl rfl (any_of HT_.out (by kernel_rfl)) (fun _ _ _ h => h) (Or.inl ⟨by rfl, ?_⟩) ?_ ?_
     rotate_left
     ·intro w'
      go_simp; with_reducible rfl
     rotate_left
     ·simp only [Act.put, List.setIfInBounds_toArray, List.set_cons_zero, List.set_cons_succ, i64_w, i32_w]
      rfl
     refine pure_ (i := 14) (N := some 79) (v := ?_) (a' := ?_) #[true, true, true, true, true, true, true, true, true, true, true, true, true, true, true, false, false, false, false, false, false, false, false, false, false, false, false, false] rfl rfl (any_of HT_.out (by kernel_rfl)) (fun _ _ _ h => h) (Or.inl ⟨by rfl, ?_⟩) ?_ ?_
     rotate_left
     ·intro w'
      go_simp; with_reducible rfl
     rotate_left
     ·simp only [Act.put, List.setIfInBounds_toArray, List.set_cons_zero, List.set_cons_succ, i64_w, i32_w]
      rfl
     refine pure_ (i := 15) (N := some 80) (v := ?_) (a' := ?_) #[true, true, true, true, true, true, true, true, true, true, true, true, true, true, true, true, false, false, false, false, false, false, false, false, false, false, false, false] rfl rfl (any_of HT_.out (by kernel_rfl)) (fun _ _ _ h => h) (Or.inl ⟨by rfl, ?_⟩) ?_ ?_
     rotate_left
     ·intro w'
      go_simp; with_reducible rfl
     rotate_left
     ·simp only [Act.put, List.setIfInBounds_toArray, List.set_cons_zero, List.set_cons_succ, i64_w, i32_w]
      rfl
     refine pure_ (i := 16) (N := some 81) (v := undef) (a' := ?_) #[true, true, true, true, true, true, true, true, true, true, true, true, true, true, true, true, true, false, false, false, false, false, false, false, false, false, false, false] rfl rfl (any_of HT_.out (by kernel_rfl)) (fun _ _ _ h => h) (Or.inr ⟨by rfl, rfl⟩) ?_ ?_
     rotate_left
     ·simp only [Act.put, List.setIfInBounds_toArray, List.set_cons_zero, List.set_cons_succ, i64_w, i32_w]
      rfl
     refine pure_ (i := 17) (N := some 82) (v := undef) (a' := ?_) #[true, true, true, true, true, true, true, true, true, true, true, true, true, true, true, true, true, true, false, false, false, false, false, false, false, false, false, false] rfl rfl (any_of HT_.out (by kernel_rfl)) (fun _ _ _ h => h) (Or.inr ⟨by rfl, rfl⟩) ?_ ?_
     rotate_left
     ·simp only [Act.put, List.setIfInBounds_toArray, List.set_cons_zero, List.set_cons_succ, i64_w, i32_w]
      rfl
     refine pure_ (i := 18) (N := some 83) (v := undef) (a' := ?_) #[true, true, true, true, true, true, true, true, true, true, true, true, true, true, true, true, true, true, true, false, false, false, false, false, false, false, false, false] rfl rfl (any_of HT_.out (by kernel_rfl)) (fun _ _ _ h => h) (Or.inr ⟨by rfl, rfl⟩) ?_ ?_
     rotate_left
     ·simp only [Act.put, List.setIfInBounds_toArray, List.set_cons_zero, List.set_cons_succ, i64_w, i32_w]
      rfl
     refine pure_ (i := 19) (N := some 84) (v := undef) (a' := ?_) #[true, true, true, true, true, true, true, true, true, true, true, true, true, true, true, true, true, true, true, true, false, false, false, false, false, false, false, false] rfl rfl (any_of HT_.out (by kernel_rfl)) (fun _ _ _ h => h) (Or.inr ⟨by rfl, rfl⟩) ?_ ?_
     rotate_left
     ·simp only [Act.put, List.setIfInBounds_toArray, List.set_cons_zero, List.set_cons_succ, i64_w, i32_w]
      rfl
     refine pure_ (i := 20) (N := some 85) (v := undef) (a' := ?_) #[true, true, true, true, true, true, true, true, true, true, true, true, true, true, true, true, true, true, true, true, true, false, false, false, false, false, false, false] rfl rfl (any_of HT_.out (by kernel_rfl)) (fun _ _ _ h => h) (Or.inr ⟨by rfl, rfl⟩) ?_ ?_
     rotate_left
     ·simp only [Act.put, List.setIfInBounds_toArray, List.set_cons_zero, List.set_cons_succ, i64_w, i32_w]
      rfl
     refine pure_ (i := 21) (N := some 86) (v := undef) (a' := ?_) #[true, true, true, true, true, true, true, true, true, true, true, true, true, true, true, true, true, true, true, true, true, true, false, false, false, false, false, false] rfl rfl (any_of HT_.out (by kernel_rfl)) (fun _ _ _ h => h) (Or.inr ⟨by rfl, rfl⟩) ?_ ?_
     rotate_left
     ·simp only [Act.put, List.setIfInBounds_toArray, List.set_cons_zero, List.set_cons_succ, i64_w, i32_w]
      rfl
     refine pure_ (i := 22) (N := some 87) (v := undef) (a' := ?_) #[true, true, true, true, true, true, true, true, true, true, true, true, true, true, true, true, true, true, true, true, true, true, true, false, false, false, false, false] rfl rfl (any_of HT_.out (by kernel_rfl)) (fun _ _ _ h => h) (Or.inr ⟨by rfl, rfl⟩) ?_ ?_
     rotate_left
     ·simp only [Act.put, List.setIfInBounds_toArray, List.set_cons_zero, List.set_cons_succ, i64_w, i32_w]
      rfl
     refine pure_ (i := 23) (N := some 88) (v := undef) (a' := ?_) #[true, true, true, true, true, true, true, true, true, true, true, true, true, true, true, true, true, true, true, true, true, true, true, true, false, false, false, false] rfl rfl (any_of HT_.out (by kernel_rfl)) (fun _ _ _ h => h) (Or.inr ⟨by rfl, rfl⟩) ?_ ?_
     rotate_left
     ·simp only [Act.put, List.setIfInBounds_toArray, List.set_cons_zero, List.set_cons_succ, i64_w, i32_w]
      rfl
     refine pure_ (i := 24) (N := some 89) (v := undef) (a' := ?_) #[true, true, true, true, true, true, true, true, true, true, true, true, true, true, true, true, true, true, true, true, true, true, true, true, true, false, false, false] rfl rfl (any_of HT_.out (by kernel_rfl)) (fun _ _ _ h => h) (Or.inr ⟨by rfl, rfl⟩) ?_ ?_
     rotate_left
     ·simp only [Act.put, List.setIfInBounds_toArray, List.set_cons_zero, List.set_cons_succ, i64_w, i32_w]
      rfl
     refine pure_ (i := 25) (N := some 90) (v := undef) (a' := ?_) #[true, true, true, true, true, true, true, true, true, true, true, true, true, true, true, true, true, true, true, true, true, true, true, true, true, true, false, false] rfl rfl (any_of HT_.out (by kernel_rfl)) (fun _ _ _ h => h) (Or.inr ⟨by rfl, rfl⟩) ?_ ?_
     rotate_left
     ·simp only [Act.put, List.setIfInBounds_toArray, List.set_cons_zero, List.set_cons_succ, i64_w, i32_w]
      rfl
     refine pure_ (i := 26) (N := some 91) (v := undef) (a' := ?_) #[true, true, true, true, true, true, true, true, true, true, true, true, true, true, true, true, true, true, true, true, true, true, true, true, true, true, true, false] rfl rfl (any_of HT_.out (by kernel_rfl)) (fun _ _ _ h => h) (Or.inr ⟨by rfl, rfl⟩) ?_ ?_
     rotate_left
     ·simp only [Act.put, List.setIfInBounds_toArray, List.set_cons_zero, List.set_cons_succ, i64_w, i32_w]
      rfl
     refine pure_ (i := 27) (N := some 92) (v := ?_) (a' := ?_) #[true, true, true, true, true, true, true, true, true, true, true, true, true, true, true, true, true, true, true, true, true, true, true, true, true, true, true, true] rfl rfl (any_of HT_.out (by kernel_rfl)) (fun _ _ _ h => h) (Or.inl ⟨by rfl, ?_⟩) ?_ ?_
     rotate_left
     ·intro w'
      go_simp; with_reducible rfl
     rotate_left
     ·simp only [Act.put, List.setIfInBounds_toArray, List.set_cons_zero, List.set_cons_succ, i64_w, i32_w]
      rfl
     refine done_ (done_of HT_.out (by kernel_rfl)) ?_
     try go_wp2
     go_meet
     case rel => exact ⟨_, (true), (by first | rfl | (simp; done) | (simp [*]; done)), H', ⟨by first | omega | exact Nat.le_refl _⟩, ⟨by exact kA⟩, ⟨by exact kA⟩, ⟨by exact kA⟩, ⟨bA⟩⟩
    ·rw [if_neg c26] at H
     have c26b0 : decide ((wrap64 (a0_4 + (wrap64 (a0_5 * a0_0)))) < (wrap64 (a0_3 * t293))) = false := decide_eq_false c26
     clear c26; replace H := Option.bind_eq_some_iff.mp H; obtain ⟨t294, A280, H⟩ := H; replace H : (backfilllaw11_ConfigLaws.j0 k t281 (wrap64 (a0_4 + (wrap64 (a0_5 * a0_0)))) (t294 != (wrap64 ((wrap64 (t293 + 1)) + (wrap64 (a0_1 * a0_2))))) a0_0 a0_1 a0_2 a0_3 a0_4 a0_5 a0_6 a0_7 t282 t283 t284 t285) = some r := H; have A28 := Aside0.mk A280; clear A280
     have H' := Aside0.mk H
     clear H
     try go_wp2
     have n0_ := Aside0.mk (blk_drew BK280.out); have n1_ := Aside0.mk (blk_drew BK286.out); have n2_ := Aside0.mk (blk_drew BK287.out); have n3_ := Aside0.mk (below_drew1 HB.out); clear BK280 BK286 BK287 HB; have BK280 := n0_; have BK286 := n1_; have BK287 := n2_; have HB := n3_; clear n0_ n1_ n2_ n3_
     refine start_ (n := 28) (S := fun w' => w'.cell? ⟨gb280, 0, none⟩ = some (.int .i64 a0_0) ∧ w'.cell? ⟨gb280, 1, none⟩ = some (.int .i64 a0_1) ∧ w'.cell? ⟨gb280, 2, none⟩ = some (.int .i64 a0_2) ∧ w'.cell? ⟨gb280, 3, none⟩ = some (.int .i64 a0_3) ∧ w'.cell? ⟨gb280, 4, none⟩ = some (.int .i64 a0_4) ∧ w'.cell? ⟨gb280, 5, none⟩ = some (.int .i64 a0_5) ∧ w'.cell? ⟨gb280, 6, none⟩ = some (.int .i64 a0_6) ∧ w'.cell? ⟨gb280, 7, none⟩ = some (.int .i64 a0_7)) (ds := []) #[false, false, false, false, false, false, false, false, false, false, false, false, false, false, false, false, false, false, false, false, false, false, false, false, false, false, false, false] (by kernel_rfl) rfl rfl ⟨(blk_cell BK280.out 0).trans rfl, (blk_cell BK280.out 1).trans rfl, (blk_cell BK280.out 2).trans rfl, (blk_cell BK280.out 3).trans rfl, (blk_cell BK280.out 4).trans rfl, (blk_cell BK280.out 5).trans rfl, (blk_cell BK280.out 6).trans rfl, (blk_cell BK280.out 7).trans rfl⟩ (fun hHeld => ?_); refine with_tabW backfilllaw11_ConfigLaws.tab7 backfilllaw11_ConfigLaws.bits7 (fun HT_ HW_ => ?_)
     generalize w22.drew = w29 at BK280 BK286 BK287 HB hHeld ⊢
     refine pure_ (i := 0) (N := some 65) (v := ?_) (a' := ?_) #[true, false, false, false, false, false, false, false, false, false, false, false, false, false, false, false, false, false, false, false, false, false, false, false, false, false, false, false] rfl rfl (any_of HT_.out (by kernel_rfl)) (fun _ _ _ h => h) (Or.inl ⟨by rfl, ?_⟩) ?_ ?_
     rotate_left
     ·intro w'
      go_simp; with_reducible rfl
     rotate_left
     ·simp only [Act.put, List.setIfInBounds_toArray, List.set_cons_zero, List.set_cons_succ, i64_w, i32_w]
      rfl
     refine pure_ (i := 2) (N := some 67) (v := ?_) (a' := ?_) #[true, false, true, false, false, false, false, false, false, false, false, false, false, false, false, false, false, false, false, false, false, false, false, false, false, false, false, false] rfl rfl (any_of HT_.out (by kernel_rfl)) (fun _ _ _ h => h) (Or.inl ⟨by rfl, ?_⟩) ?_ ?_
     rotate_left
     ·intro w'
      go_simp; with_reducible rfl
     rotate_left
     ·simp only [Act.put, List.setIfInBounds_toArray, List.set_cons_zero, List.set_cons_succ, i64_w, i32_w]
      rfl
     refine pure_ (i := 3) (N := some 68) (v := ?_) (a' := ?_) #[true, false, true, true, false, false, false, false, false, false, false, false, false, false, false, false, false, false, false, false, false, false, false, false, false, false, false, false] rfl rfl (any_of HT_.out (by kernel_rfl)) (fun _ _ _ h => h) (Or.inl ⟨by rfl, ?_⟩) ?_ ?_
     rotate_left
     ·intro w'
      go_simp; with_reducible rfl
     rotate_left
     ·simp only [Act.put, List.setIfInBounds_toArray, List.set_cons_zero, List.set_cons_succ, i64_w, i32_w]
      rfl
     refine pure_ (i := 5) (N := some 70) (v := ?_) (a' := ?_) #[true, false, true, true, false, true, false, false, false, false, false, false, false, false, false, false, false, false, false, false, false, false, false, false, false, false, false, false] rfl rfl (any_of HT_.out (by kernel_rfl)) (fun _ _ _ h => h) (Or.inl ⟨by rfl, ?_⟩) ?_ ?_
     rotate_left
     ·intro w'
      go_simp; with_reducible rfl
     rotate_left
     ·simp only [Act.put, List.setIfInBounds_toArray, List.set_cons_zero, List.set_cons_succ, i64_w, i32_w]
      rfl
     refine take_ (i := 1) (N := some 66) (v := ?_) (a' := ?_) #[true, true, true, true, false, true, false, false, false, false, false, false, false, false, false, false, false, false, false, false, false, false, false, false, false, false, false, false] rfl rfl (take_ofW HT_.out HW_.out (by kernel_rfl)) (fun _ _ _ h => h) (Or.inl ⟨by rfl, ?_⟩) hHeld ?_ ?_
     rotate_left
     ·rintro w' ⟨s0, s1, s2, s3, s4, s5, s6, s7⟩
      go_simp; with_reducible rfl
     rotate_left
     ·simp only [Act.put, List.setIfInBounds_toArray, List.set_cons_zero, List.set_cons_succ, i64_w, i32_w]
      rfl
     refine pure_ (i := 4) (N := some 69) (v := ?_) (a' := ?_) #[true, true, true, true, true, true, false, false, false, false, false, false, false, false, false, false, false, false, false, false, false, false, false, false, false, false, false, false] rfl rfl (any_of HT_.out (by kernel_rfl)) (fun _ _ _ h => h) (Or.inl ⟨by rfl, ?_⟩) ?_ ?_
     rotate_left
     ·intro w'
      go_simp; with_reducible rfl
     rotate_left
     ·simp only [Act.put, List.setIfInBounds_toArray, List.set_cons_zero, List.set_cons_succ, i64_w, i32_w]
      rfl
     refine pure_ (i := 6) (N := some 71) (v := ?_) (a' := ?_) #[true, true, true, true, true, true, true, false, false, false, false, false, false, false, false, false, false, false, false, false, false, false, false, false, false, false, false, false] rfl rfl (any_of HT_.out (by kernel_rfl)) (fun _ _ _ h => h) (Or.inl ⟨by rfl, ?_⟩) ?_ ?_
     rotate_left
     ·intro w'
      go_simp; with_reducible rfl
     rotate_left
     ·simp only [Act.put, List.setIfInBounds_toArray, List.set_cons_zero, List.set_cons_succ, i64_w, i32_w]
      rfl
     refine pure_ (i := 7) (N := some 72) (v := ?_) (a' := ?_) #[true, true, true, true, true, true, true, true, false, false, false, false, false, false, false, false, false, false, false, false, false, false, false, false, false, false, false, false] rfl rfl (any_of HT_.out (by kernel_rfl)) (fun _ _ _ h => h) (Or.inl ⟨by rfl, ?_⟩) ?_ ?_
     rotate_left
     ·intro w'
      go_simp; with_reducible rfl
     rotate_left
     ·simp only [Act.put, List.setIfInBounds_toArray, List.set_cons_zero, List.set_cons_succ, i64_w, i32_w]
      rfl
     refine pure_ (i := 8) (N := some 73) (v := ?_) (a' := ?_) #[true, true, true, true, true, true, true, true, true, false, false, false, false, false, false, false, false, false, false, false, false, false, false, false, false, false, false, false] rfl rfl (any_of HT_.out (by kernel_rfl)) (fun _ _ _ h => h) (Or.inl ⟨by rfl, ?_⟩) ?_ ?_
     rotate_left
     ·intro w'
      go_simp; with_reducible rfl
     rotate_left
     ·simp only [Act.put, List.setIfInBounds_toArray, List.set_cons_zero, List.set_cons_succ, i64_w, i32_w]
      rfl
     refine pure_ (i := 10) (N := some 75) (v := ?_) (a' := ?_) #[true, true, true, true, true, true, true, true, true, false, true, false, false, false, false, false, false, false, false, false, false, false, false, false, false, false, false, false] rfl rfl (any_of HT_.out (by kernel_rfl)) (fun _ _ _ h => h) (Or.inl ⟨by rfl, ?_⟩) ?_ ?_
     rotate_left
     ·intro w'
      go_simp; with_reducible rfl
     rotate_left
     ·simp only [Act.put, List.setIfInBounds_toArray, List.set_cons_zero, List.set_cons_succ, i64_w, i32_w]
      rfl
     refine pure_ (i := 12) (N := some 77) (v := ?_) (a' := ?_) #[true, true, true, true, true, true, true, true, true, false, true, false, true, false, false, false, false, false, false, false, false, false, false, false, false, false, false, false] rfl rfl (any_of HT_.out (by kernel_rfl)) (fun _ _ _ h => h) (Or.inl ⟨by rfl, ?_⟩) ?_ ?_
     rotate_left
     ·intro w'
      go_simp; with_reducible rfl
     rotate_left
     ·simp only [Act.put, List.setIfInBounds_toArray, List.set_cons_zero, List.set_cons_succ, i64_w, i32_w]
      rfl
     refine take_ (i := 9) (N := some 74) (v := ?_) (a' := ?_) #[true, true, true, true, true, true, true, true, true, true, true, false, true, false, false, false, false, false, false, false, false, false, false, false, false, false, false, false] rfl rfl (take_ofW HT_.out HW_.out (by kernel_rfl)) (fun _ _ _ h => h) (Or.inl ⟨by rfl, ?_⟩) hHeld ?_ ?_
     rotate_left
     ·rintro w' ⟨s0, s1, s2, s3, s4, s5, s6, s7⟩
      go_simp; with_reducible rfl
     rotate_left
     ·simp only [Act.put, List.setIfInBounds_toArray, List.set_cons_zero, List.set_cons_succ, i64_w, i32_w]
      rfl
     refine pure_ (i := 11) (N := some 76) (v := ?_) (a' := ?_) #[true, true, true, true, true, true, true, true, true, true, true, true, true, false, false, false, false, false, false, false, false, false, false, false, false, false, false, false] rfl rfl (any_of HT_.out (by kernel_rfl)) (fun _ _ _ h => h) (Or.inl ⟨by rfl, ?_⟩) ?_ ?_
     rotate_left
     ·intro w'
      go_simp; with_reducible rfl
     rotate_left
     ·simp only [Act.put, List.setIfInBounds_toArray, List.set_cons_zero, List.set_cons_succ, i64_w, i32_w]
      rfl
     refine pure_ (i := 13) (N := some 78) (v := ?_) (a' := ?_) #[true, true, true, true, true, true, true, true, true, true, true, true, true, true, false, false, false, false, false, false, false, false, false, false, false, false, false, false] rfl rfl (any_of HT_.out (by kernel_rfl)) (fun _ _ _ h => h) (Or.inl ⟨by rfl, ?_⟩) ?_ ?_
     rotate_left
     ·intro w'
      go_simp; with_reducible rfl
     rotate_left
     ·simp only [Act.put, List.setIfInBounds_toArray, List.set_cons_zero, List.set_cons_succ, i64_w, i32_w]
      rfl
     refine pure_ (i := 14) (N := some 79) (v := ?_) (a' := ?_) #[true, true, true, true, true, true, true, true, true, true, true, true, true, true, true, false, false, false, false, false, false, false, false, false, false, false, false, false] rfl rfl (any_of HT_.out (by kernel_rfl)) (fun _ _ _ h => h) (Or.inl ⟨by rfl, ?_⟩) ?_ ?_
     rotate_left
     ·intro w'
      go_simp; with_reducible rfl
     rotate_left
     ·simp only [Act.put, List.setIfInBounds_toArray, List.set_cons_zero, List.set_cons_succ, i64_w, i32_w]
      rfl
     refine pure_ (i := 15) (N := some 80) (v := ?_) (a' := ?_) #[true, true, true, true, true, true, true, true, true, true, true, true, true, true, true, true, false, false, false, false, false, false, false, false, false, false, false, false] rfl rfl (any_of HT_.out (by kernel_rfl)) (fun _ _ _ h => h) (Or.inl ⟨by rfl, ?_⟩) ?_ ?_
     rotate_left
     ·intro w'
      go_simp; with_reducible rfl
     rotate_left
     ·simp only [Act.put, List.setIfInBounds_toArray, List.set_cons_zero, List.set_cons_succ, i64_w, i32_w]
      rfl
     refine pure_ (i := 18) (N := some 83) (v := ?_) (a' := ?_) #[true, true, true, true, true, true, true, true, true, true, true, true, true, true, true, true, false, false, true, false, false, false, false, false, false, false, false, false] rfl rfl (any_of HT_.out (by kernel_rfl)) (fun _ _ _ h => h) (Or.inl ⟨by rfl, ?_⟩) ?_ ?_
     rotate_left
     ·intro w'
      go_simp; with_reducible rfl
     rotate_left
     ·simp only [Act.put, List.setIfInBounds_toArray, List.set_cons_zero, List.set_cons_succ, i64_w, i32_w]
      rfl
     refine pure_ (i := 19) (N := some 84) (v := ?_) (a' := ?_) #[true, true, true, true, true, true, true, true, true, true, true, true, true, true, true, true, false, false, true, true, false, false, false, false, false, false, false, false] rfl rfl (any_of HT_.out (by kernel_rfl)) (fun _ _ _ h => h) (Or.inl ⟨by rfl, ?_⟩) ?_ ?_
     rotate_left
     ·intro w'
      go_simp; with_reducible rfl
     rotate_left
     ·simp only [Act.put, List.setIfInBounds_toArray, List.set_cons_zero, List.set_cons_succ, i64_w, i32_w]
      rfl
     refine pure_ (i := 20) (N := some 85) (v := ?_) (a' := ?_) #[true, true, true, true, true, true, true, true, true, true, true, true, true, true, true, true, false, false, true, true, true, false, false, false, false, false, false, false] rfl rfl (any_of HT_.out (by kernel_rfl)) (fun _ _ _ h => h) (Or.inl ⟨by rfl, ?_⟩) ?_ ?_
     rotate_left
     ·intro w'
      go_simp; with_reducible rfl
     rotate_left
     ·simp only [Act.put, List.setIfInBounds_toArray, List.set_cons_zero, List.set_cons_succ, i64_w, i32_w]
      rfl
     refine pure_ (i := 22) (N := some 87) (v := ?_) (a' := ?_) #[true, true, true, true, true, true, true, true, true, true, true, true, true, true, true, true, false, false, true, true, true, false, true, false, false, false, false, false] rfl rfl (any_of HT_.out (by kernel_rfl)) (fun _ _ _ h => h) (Or.inl ⟨by rfl, ?_⟩) ?_ ?_
     rotate_left
     ·intro w'
      go_simp; with_reducible rfl
     rotate_left
     ·simp only [Act.put, List.setIfInBounds_toArray, List.set_cons_zero, List.set_cons_succ, i64_w, i32_w]
      rfl
     refine take_ (i := 16) (N := some 81) (v := ?_) (a' := ?_) #[true, true, true, true, true, true, true, true, true, true, true, true, true, true, true, true, true, false, true, true, true, false, true, false, false, false, false, false] rfl rfl (take_ofW HT_.out HW_.out (by kernel_rfl)) (fun _ _ _ h => h) (Or.inl ⟨by rfl, ?_⟩) hHeld ?_ ?_
     rotate_left
     ·rintro w' ⟨s0, s1, s2, s3, s4, s5, s6, s7⟩
      go_simp; with_reducible rfl
     rotate_left
     ·simp only [Act.put, List.setIfInBounds_toArray, List.set_cons_zero, List.set_cons_succ, i64_w, i32_w]
      rfl
     refine take_ (i := 21) (N := some 86) (v := ?_) (a' := ?_) #[true, true, true, true, true, true, true, true, true, true, true, true, true, true, true, true, true, false, true, true, true, true, true, false, false, false, false, false] rfl rfl (take_ofW HT_.out HW_.out (by kernel_rfl)) (fun _ _ _ h => h) (Or.inl ⟨by rfl, ?_⟩) hHeld ?_ ?_
     rotate_left
     ·rintro w' ⟨s0, s1, s2, s3, s4, s5, s6, s7⟩
      go_simp; with_reducible rfl
     rotate_left
     ·simp only [Act.put, List.setIfInBounds_toArray, List.set_cons_zero, List.set_cons_succ, i64_w, i32_w]
      rfl
     refine take_ (i := 23) (N := some 88) (v := ?_) (a' := ?_) #[true, true, true, true, true, true, true, true, true, true, true, true, true, true, true, true, true, false, true, true, true, true, true, true, false, false, false, false] rfl rfl (take_ofW HT_.out HW_.out (by kernel_rfl)) (fun _ _ _ h => h) (Or.inl ⟨by rfl, ?_⟩) hHeld ?_ ?_
     rotate_left
     ·rintro w' ⟨s0, s1, s2, s3, s4, s5, s6, s7⟩
      go_simp; with_reducible rfl
     rotate_left
     ·simp only [Act.put, List.setIfInBounds_toArray, List.set_cons_zero, List.set_cons_succ, i64_w, i32_w]
      rfl
     refine pure_ (i := 24) (N := some 89) (v := ?_) (a' := ?_) #[true, true, true, true, true, true, true, true, true, true, true, true, true, true, true, true, true, false, true, true, true, true, true, true, true, false, false, false] rfl rfl (any_of HT_.out (by kernel_rfl)) (fun _ _ _ h => h) (Or.inl ⟨by rfl, ?_⟩) ?_ ?_
     rotate_left
     ·intro w'
      go_simp; with_reducible rfl
     rotate_left
     ·simp only [Act.put, List.setIfInBounds_toArray, List.set_cons_zero, List.set_cons_succ, i64_w, i32_w]
      rfl
     refine pure_ (i := 25) (N := some 90) (v := ?_) (a' := ?_) #[true, true, true, true, true, true, true, true, true, true, true, true, true, true, true, true, true, false, true, true, true, true, true, true, true, true, false, false] rfl rfl (any_of HT_.out (by kernel_rfl)) (fun _ _ _ h => h) (Or.inl ⟨by rfl, ?_⟩) ?_ ?_
     rotate_left
     ·intro w'
      go_simp; with_reducible rfl
     rotate_left
     ·simp only [Act.put, List.setIfInBounds_toArray, List.set_cons_zero, List.set_cons_succ, i64_w, i32_w]
      rfl
     refine one_ (i := 17) (N := some 82) #[true, true, true, true, true, true, true, true, true, true, true, true, true, true, true, true, true, true, true, true, true, true, true, true, true, true, false, false] rfl rfl (one_of HT_.out (by kernel_rfl)) (by decide) (fun K hK => ?_)
     refine goes_ Try.func31 (by kernel_rfl) rfl #[.agg #[.int .i64 a0_0, .int .i64 a0_1, .int .i64 a0_2, .int .i64 a0_3, .int .i64 a0_4, .int .i64 a0_5, .int .i64 a0_6, .int .i64 a0_7]] (by rfl) rfl rfl aA ?_
     with_reducible refine (config_Bound.calls k a0_0 a0_1 a0_2 a0_3 a0_4 a0_5 a0_6 a0_7 t294 _ A28.out).mono ?_
     rintro e w30 ⟨rfl, hb⟩
     refine ⟨_, rfl, ?_⟩; have n0_ := Aside0.mk (blk_below (g := gb280) kA hb); have n1_ := Aside0.mk (blk_below (g := gb286) kA hb); have n2_ := Aside0.mk (blk_below (g := gb287) kA hb); have n3_ := Aside0.mk (below_step bA hb); clear BK280 BK286 BK287 HB; have BK280 := n0_; have BK286 := n1_; have BK287 := n2_; have HB := n3_; clear n0_ n1_ n2_ n3_; (try clear hb)
     refine hK.out _ _ ⟨(blk_cell BK280.out 0).trans rfl, (blk_cell BK280.out 1).trans rfl, (blk_cell BK280.out 2).trans rfl, (blk_cell BK280.out 3).trans rfl, (blk_cell BK280.out 4).trans rfl, (blk_cell BK280.out 5).trans rfl, (blk_cell BK280.out 6).trans rfl, (blk_cell BK280.out 7).trans rfl⟩ (fun hHeld => ?_)
     clear hK K
     refine norm_ (a' := ?_) ?_ ?_
     rotate_left
     ·show Act.put _ (some 82) _ = _
      simp only [Act.put, List.setIfInBounds_toArray, List.set_cons_zero, List.set_cons_succ, i64_w, i32_w]
      rfl
     refine pure_ (i := 26) (N := some 91) (v := ?_) (a' := ?_) #[true, true, true, true, true, true, true, true, true, true, true, true, true, true, true, true, true, true, true, true, true, true, true, true, true, true, true, false] rfl rfl (any_of HT_.out (by kernel_rfl)) (fun _ _ _ h => h) (Or.inl ⟨by rfl, ?_⟩) ?_ ?_
     rotate_left
     ·intro w'
      go_simp; with_reducible rfl
     rotate_left
     ·simp only [Act.put, List.setIfInBounds_toArray, List.set_cons_zero, List.set_cons_succ, i64_w, i32_w]
      rfl
     refine pure_ (i := 27) (N := some 92) (v := ?_) (a' := ?_) #[true, true, true, true, true, true, true, true, true, true, true, true, true, true, true, true, true, true, true, true, true, true, true, true, true, true, true, true] rfl rfl (any_of HT_.out (by kernel_rfl)) (fun _ _ _ h => h) (Or.inl ⟨by rfl, ?_⟩) ?_ ?_
     rotate_left
     ·intro w'
      go_simp; with_reducible rfl
     rotate_left
     ·simp only [Act.put, List.setIfInBounds_toArray, List.set_cons_zero, List.set_cons_succ, i64_w, i32_w]
      rfl
     refine done_ (done_of HT_.out (by kernel_rfl)) ?_
     try go_wp2
     go_meet
     case rel => exact ⟨_, ((t294 != (wrap64 ((wrap64 (t293 + 1)) + (wrap64 (a0_1 * a0_2)))))), (by first | rfl | (simp; done) | (simp [*]; done)), H', ⟨by first | omega | exact Nat.le_refl _⟩, ⟨by exact kA⟩, ⟨by exact kA⟩, ⟨by exact kA⟩, ⟨bA⟩⟩
  case rest =>
   clear HC7
   try clear c2
   try clear p2
   try clear c3
   try clear p6
   try clear c24
   try clear c24b0
   try clear c26
   try clear c26b0
   obtain ⟨kq, x92_6, rfl, HA, HJ6, BK280, BK286, BK287, HB⟩ := hcut
   cases kq with
   | zero => exact absurd HA.out (by simp [backfilllaw11_ConfigLaws.j0])
   | succ kj6 =>
    have H := HA.out
    clear HA
    simp only [backfilllaw11_ConfigLaws.j0] at H
    by_cases c31 : x92_6 = true
    ·subst c31
     have H1 : (none) = some r := by rw [if_pos rfl] at H; exact H
     clear H
     have H := H1
     clear H1
     exact absurd H (by simp)
    ·replace c31 := Bool.eq_false_iff.mpr c31
     subst c31
     have H1 : ((config_Most.f kj6 a0_0 a0_1 a0_2 a0_3 a0_4 a0_5 a0_6 a0_7).bind fun t295 => ((config_Floor.f kj6 a0_0 a0_1 a0_2 a0_3 a0_4 a0_5 a0_6 a0_7).bind fun t296 => (if (IntKind.u64.wrap (Int.tdiv t295 2)) < t296 then (backfilllaw11_ConfigLaws.j1 kj6 t281 (wrap64 (a0_4 + (wrap64 (a0_5 * a0_0)))) true a0_0 a0_1 a0_2 a0_3 a0_4 a0_5 a0_6 a0_7 t282 t283 t284 t285) else ((config_Floor.f kj6 a0_0 a0_1 a0_2 a0_3 a0_4 a0_5 a0_6 a0_7).bind fun t297 => (if t297 = (IntKind.u64.wrap ((IntKind.u64.wrap (wrap64 (a0_0 * a0_6))) * 4294967296)) then ((config_Most.f kj6 a0_0 a0_1 a0_2 a0_3 a0_4 a0_5 a0_6 a0_7).bind fun t298 => (backfilllaw11_ConfigLaws.j1 kj6 t281 (wrap64 (a0_4 + (wrap64 (a0_5 * a0_0)))) (decide (t298 > 9223372036854775808)) a0_0 a0_1 a0_2 a0_3 a0_4 a0_5 a0_6 a0_7 t282 t283 t284 t285)) else (backfilllaw11_ConfigLaws.j1 kj6 t281 (wrap64 (a0_4 + (wrap64 (a0_5 * a0_0)))) true a0_0 a0_1 a0_2 a0_3 a0_4 a0_5 a0_6 a0_7 t282 t283 t284 t285)))))) = some r := by rw [if_neg (show ¬ (false = true) by decide)] at H; exact H
     clear H
     have H := H1
     clear H1
     have HC32 := Aside0.mk H
     clear H
     go_upto_region 9 with (fail)
     go_cut [115] (fun v115 wc => ∃ (kq : Nat) (x115_31 : Bool), v115 = .bool x115_31 ∧ Aside0 (backfilllaw11_ConfigLaws.j1 kq t281 (wrap64 (a0_4 + (wrap64 (a0_5 * a0_0)))) x115_31 a0_0 a0_1 a0_2 a0_3 a0_4 a0_5 a0_6 a0_7 t282 t283 t284 t285 = some r) ∧ Aside0 (kq ≤ kj6) ∧ Aside0 (wc.heap[gb280]? = some (.cells #[.int .i64 a0_0, .int .i64 a0_1, .int .i64 a0_2, .int .i64 a0_3, .int .i64 a0_4, .int .i64 a0_5, .int .i64 a0_6, .int .i64 a0_7] 39 (0, 0))) ∧ Aside0 (wc.heap[gb286]? = some (.cells #[.int .u64 t282, .int .u64 t283] 25 (0, 0))) ∧ Aside0 (wc.heap[gb287]? = some (.cells #[.int .u64 t284, .int .u64 t285] 25 (0, 0))) ∧ Aside0 (Below w.heap.size w wc))
     case first =>
      have H := HC32.out
      clear HC32; replace H := Option.bind_eq_some_iff.mp H; obtain ⟨t295, A330, H⟩ := H; replace H : ((config_Floor.f kj6 a0_0 a0_1 a0_2 a0_3 a0_4 a0_5 a0_6 a0_7).bind fun t296 => (if (IntKind.u64.wrap (Int.tdiv t295 2)) < t296 then (backfilllaw11_ConfigLaws.j1 kj6 t281 (wrap64 (a0_4 + (wrap64 (a0_5 * a0_0)))) true a0_0 a0_1 a0_2 a0_3 a0_4 a0_5 a0_6 a0_7 t282 t283 t284 t285) else ((config_Floor.f kj6 a0_0 a0_1 a0_2 a0_3 a0_4 a0_5 a0_6 a0_7).bind fun t297 => (if t297 = (IntKind.u64.wrap ((IntKind.u64.wrap (wrap64 (a0_0 * a0_6))) * 4294967296)) then ((config_Most.f kj6 a0_0 a0_1 a0_2 a0_3 a0_4 a0_5 a0_6 a0_7).bind fun t298 => (backfilllaw11_ConfigLaws.j1 kj6 t281 (wrap64 (a0_4 + (wrap64 (a0_5 * a0_0)))) (decide (t298 > 9223372036854775808)) a0_0 a0_1 a0_2 a0_3 a0_4 a0_5 a0_6 a0_7 t282 t283 t284 t285)) else (backfilllaw11_ConfigLaws.j1 kj6 t281 (wrap64 (a0_4 + (wrap64 (a0_5 * a0_0)))) true a0_0 a0_1 a0_2 a0_3 a0_4 a0_5 a0_6 a0_7 t282 t283 t284 t285))))) = some r := H; have A33 := Aside0.mk A330; clear A330; replace H := Option.bind_eq_some_iff.mp H; obtain ⟨t296, A340, H⟩ := H; replace H : (if (IntKind.u64.wrap (Int.tdiv t295 2)) < t296 then (backfilllaw11_ConfigLaws.j1 kj6 t281 (wrap64 (a0_4 + (wrap64 (a0_5 * a0_0)))) true a0_0 a0_1 a0_2 a0_3 a0_4 a0_5 a0_6 a0_7 t282 t283 t284 t285) else ((config_Floor.f kj6 a0_0 a0_1 a0_2 a0_3 a0_4 a0_5 a0_6 a0_7).bind fun t297 => (if t297 = (IntKind.u64.wrap ((IntKind.u64.wrap (wrap64 (a0_0 * a0_6))) * 4294967296)) then ((config_Most.f kj6 a0_0 a0_1 a0_2 a0_3 a0_4 a0_5 a0_6 a0_7).bind fun t298 => (backfilllaw11_ConfigLaws.j1 kj6 t281 (wrap64 (a0_4 + (wrap64 (a0_5 * a0_0)))) (decide (t298 > 9223372036854775808)) a0_0 a0_1 a0_2 a0_3 a0_4 a0_5 a0_6 a0_7 t282 t283 t284 t285)) else (backfilllaw11_ConfigLaws.j1 kj6 t281 (wrap64 (a0_4 + (wrap64 (a0_5 * a0_0)))) true a0_0 a0_1 a0_2 a0_3 a0_4 a0_5 a0_6 a0_7 t282 t283 t284 t285)))) = some r := H; have A34 := Aside0.mk A340; clear A340
      by_cases c35 : (IntKind.u64.wrap (Int.tdiv t295 2)) < t296
      ·rw [if_pos c35] at H
       have c35b0 : decide ((IntKind.u64.wrap (Int.tdiv t295 2)) < t296) = true := decide_eq_true c35
       clear c35
       (first | rw [c35b0] | (simp only [i64_w, i32_w]; rw [c35b0]) | skip)
       have H' := Aside0.mk H
       clear H
       try go_wp2
       have n0_ := Aside0.mk (blk_drew BK280.out); have n1_ := Aside0.mk (blk_drew BK286.out); have n2_ := Aside0.mk (blk_drew BK287.out); have n3_ := Aside0.mk (below_drew1 HB.out); clear BK280 BK286 BK287 HB; have BK280 := n0_; have BK286 := n1_; have BK287 := n2_; have HB := n3_; clear n0_ n1_ n2_ n3_
       refine start_ (n := 23) (S := fun w' => w'.cell? ⟨gb280, 0, none⟩ = some (.int .i64 a0_0) ∧ w'.cell? ⟨gb280, 1, none⟩ = some (.int .i64 a0_1) ∧ w'.cell? ⟨gb280, 2, none⟩ = some (.int .i64 a0_2) ∧ w'.cell? ⟨gb280, 3, none⟩ = some (.int .i64 a0_3) ∧ w'.cell? ⟨gb280, 4, none⟩ = some (.int .i64 a0_4) ∧ w'.cell? ⟨gb280, 5, none⟩ = some (.int .i64 a0_5) ∧ w'.cell? ⟨gb280, 6, none⟩ = some (.int .i64 a0_6) ∧ w'.cell? ⟨gb280, 7, none⟩ = some (.int .i64 a0_7)) (ds := []) #[false, false, false, false, false, false, false, false, false, false, false, false, false, false, false, false, false, false, false, false, false, false, false] (by kernel_rfl) rfl rfl ⟨(blk_cell BK280.out 0).trans rfl, (blk_cell BK280.out 1).trans rfl, (blk_cell BK280.out 2).trans rfl, (blk_cell BK280.out 3).trans rfl, (blk_cell BK280.out 4).trans rfl, (blk_cell BK280.out 5).trans rfl, (blk_cell BK280.out 6).trans rfl, (blk_cell BK280.out 7).trans rfl⟩ (fun hHeld => ?_); refine with_tabW backfilllaw11_ConfigLaws.tab9 backfilllaw11_ConfigLaws.bits9 (fun HT_ HW_ => ?_)
       generalize wc.drew = w36 at BK280 BK286 BK287 HB hHeld ⊢
       refine take_ (i := 0) (N := some 93) (v := ?_) (a' := ?_) #[true, false, false, false, false, false, false, false, false, false, false, false, false, false, false, false, false, false, false, false, false, false, false] rfl rfl (take_ofW HT_.out HW_.out (by kernel_rfl)) (fun _ _ _ h => h) (Or.inl ⟨by rfl, ?_⟩) hHeld ?_ ?_
       rotate_left
       ·rintro w' ⟨s0, s1, s2, s3, s4, s5, s6, s7⟩
        go_simp; with_reducible rfl
       rotate_left
       ·simp only [Act.put, List.setIfInBounds_toArray, List.set_cons_zero, List.set_cons_succ, i64_w, i32_w]
        rfl
       refine take_ (i := 3) (N := some 96) (v := ?_) (a' := ?_) #[true, false, false, true, false, false, false, false, false, false, false, false, false, false, false, false, false, false, false, false, false, false, false] rfl rfl (take_ofW HT_.out HW_.out (by kernel_rfl)) (fun _ _ _ h => h) (Or.inl ⟨by rfl, ?_⟩) hHeld ?_ ?_
       rotate_left
       ·rintro w' ⟨s0, s1, s2, s3, s4, s5, s6, s7⟩
        go_simp; with_reducible rfl
       rotate_left
       ·simp only [Act.put, List.setIfInBounds_toArray, List.set_cons_zero, List.set_cons_succ, i64_w, i32_w]
        rfl
       refine one_ (i := 1) (N := some 94) #[true, true, false, true, false, false, false, false, false, false, false, false, false, false, false, false, false, false, false, false, false, false, false] rfl rfl (one_of HT_.out (by kernel_rfl)) (by decide) (fun K hK => ?_)
       refine goes_ Try.func33 (by kernel_rfl) rfl #[.agg #[.int .i64 a0_0, .int .i64 a0_1, .int .i64 a0_2, .int .i64 a0_3, .int .i64 a0_4, .int .i64 a0_5, .int .i64 a0_6, .int .i64 a0_7]] (by rfl) rfl rfl aA ?_
       with_reducible refine (config_Most.calls kj6 a0_0 a0_1 a0_2 a0_3 a0_4 a0_5 a0_6 a0_7 t295 _ A33.out).mono ?_
       rintro e w37 ⟨rfl, hb⟩
       refine ⟨_, rfl, ?_⟩; have n0_ := Aside0.mk (blk_below (g := gb280) kA hb); have n1_ := Aside0.mk (blk_below (g := gb286) kA hb); have n2_ := Aside0.mk (blk_below (g := gb287) kA hb); have n3_ := Aside0.mk (below_step bA hb); clear BK280 BK286 BK287 HB; have BK280 := n0_; have BK286 := n1_; have BK287 := n2_; have HB := n3_; clear n0_ n1_ n2_ n3_; (try clear hb)
       refine hK.out _ _ ⟨(blk_cell BK280.out 0).trans rfl, (blk_cell BK280.out 1).trans rfl, (blk_cell BK280.out 2).trans rfl, (blk_cell BK280.out 3).trans rfl, (blk_cell BK280.out 4).trans rfl, (blk_cell BK280.out 5).trans rfl, (blk_cell BK280.out 6).trans rfl, (blk_cell BK280.out 7).trans rfl⟩ (fun hHeld => ?_)
       clear hK K
       refine norm_ (a' := ?_) ?_ ?_
       rotate_left
       ·show Act.put _ (some 94) _ = _
        simp only [Act.put, List.setIfInBounds_toArray, List.set_cons_zero, List.set_cons_succ, i64_w, i32_w]
        rfl
       refine pure_ (i := 2) (N := some 95) (v := ?_) (a' := ?_) #[true, true, true, true, false, false, false, false, false, false, false, false, false, false, false, false, false, false, false, false, false, false, false] rfl rfl (any_of HT_.out (by kernel_rfl)) (fun _ _ _ h => h) (Or.inl ⟨by rfl, ?_⟩) ?_ ?_
       rotate_left
       ·intro w'
        go_simp; with_reducible rfl
       rotate_left
       ·simp only [Act.put, List.setIfInBounds_toArray, List.set_cons_zero, List.set_cons_succ, i64_w, i32_w]
        rfl
       refine one_ (i := 4) (N := some 97) #[true, true, true, true, true, false, false, false, false, false, false, false, false, false, false, false, false, false, false, false, false, false, false] rfl rfl (one_of HT_.out (by kernel_rfl)) (by decide) (fun K hK => ?_)
       refine goes_ Try.func35 (by kernel_rfl) rfl #[.agg #[.int .i64 a0_0, .int .i64 a0_1, .int .i64 a0_2, .int .i64 a0_3, .int .i64 a0_4, .int .i64 a0_5, .int .i64 a0_6, .int .i64 a0_7]] (by rfl) rfl rfl aA ?_
       with_reducible refine (config_Floor.calls kj6 a0_0 a0_1 a0_2 a0_3 a0_4 a0_5 a0_6 a0_7 t296 _ A34.out).mono ?_
       rintro e w38 ⟨rfl, hb⟩
       refine ⟨_, rfl, ?_⟩; have n0_ := Aside0.mk (blk_below (g := gb280) kA hb); have n1_ := Aside0.mk (blk_below (g := gb286) kA hb); have n2_ := Aside0.mk (blk_below (g := gb287) kA hb); have n3_ := Aside0.mk (below_step bA hb); clear BK280 BK286 BK287 HB; have BK280 := n0_; have BK286 := n1_; have BK287 := n2_; have HB := n3_; clear n0_ n1_ n2_ n3_; (try clear hb)
       refine hK.out _ _ ⟨(blk_cell BK280.out 0).trans rfl, (blk_cell BK280.out 1).trans rfl, (blk_cell BK280.out 2).trans rfl, (blk_cell BK280.out 3).trans rfl, (blk_cell BK280.out 4).trans rfl, (blk_cell BK280.out 5).trans rfl, (blk_cell BK280.out 6).trans rfl, (blk_cell BK280.out 7).trans rfl⟩ (fun hHeld => ?_)
       clear hK K
       refine norm_ (a' := ?_) ?_ ?_
       rotate_left
       ·show Act.put _ (some 97) _ = _
        simp only [Act.put, List.setIfInBounds_toArray, List.set_cons_zero, List.set_cons_succ, i64_w, i32_w]
        rfl
       refine pure_ (i := 5) (N := some 98) (v := ?_) (a' := ?_) #[true, true, true, true, true, true, false, false, false, false, false, false, false, false, false, false, false, false, false, false, false, false, false] rfl rfl (any_of HT_.out (by kernel_rfl)) (fun _ _ _ h => h) (Or.inl ⟨by rfl, ?_⟩) ?_ ?_
       rotate_left
       ·intro w'
        go_simp; with_reducible rfl
       rotate_left
       ·simp only [Act.put, List.setIfInBounds_toArray, List.set_cons_zero, List.set_cons_succ, i64_w, i32_w]
        rfl
       refine pure_ (i := 6) (N := some 99) (v := ?_) (a' := ?_) #[true, true, true, true, true, true, true, false, false, false, false, false, false, false, false, false, false, false, false, false, false, false, false] rfl rfl (any_of HT_.out (by kernel_rfl)) (fun _ _ _ h => h) (Or.inl ⟨by rfl, ?_⟩) ?_ ?_
       rotate_left
       ·intro w'
        go_simp; with_reducible rfl
       rotate_left
       ·simp only [Act.put, List.setIfInBounds_toArray, List.set_cons_zero, List.set_cons_succ, i64_w, i32_w]
        rfl
       refine pure_ (i := 7) (N := some 100) (v := undef) (a' := ?_) #[true, true, true, true, true, true, true, true, false, false, false, false, false, false, false, false, false, false, false, false, false, false, false] rfl rfl (any_of HT_.out (by kernel_rfl)) (fun _ _ _ h => h) (Or.inr ⟨by rfl, rfl⟩) ?_ ?_
       rotate_left
       ·simp only [Act.put, List.setIfInBounds_toArray, List.set_cons_zero, List.set_cons_succ, i64_w, i32_w]
        rfl
       refine pure_ (i := 8) (N := some 101) (v := undef) (a' := ?_) #[true, true, true, true, true, true, true, true, true, false, false, false, false, false, false, false, false, false, false, false, false, false, false] rfl rfl (any_of HT_.out (by kernel_rfl)) (fun _ _ _ h => h) (Or.inr ⟨by rfl, rfl⟩) ?_ ?_
       rotate_left
       ·simp only [Act.put, List.setIfInBounds_toArray, List.set_cons_zero, List.set_cons_succ, i64_w, i32_w]
        rfl
       refine pure_ (i := 9) (N := some 102) (v := undef) (a' := ?_) #[true, true, true, true, true, true, true, true, true, true, false, false, false, false, false, false, false, false, false, false, false, false, false] rfl rfl (any_of HT_.out (by kernel_rfl)) (fun _ _ _ h => h) (Or.inr ⟨by rfl, rfl⟩) ?_ ?_
       rotate_left
       ·simp only [Act.put, List.setIfInBounds_toArray, List.set_cons_zero, List.set_cons_succ, i64_w, i32_w]
        rfl
       refine pure_ (i := 10) (N := some 103) (v := undef) (a' := ?_) #[true, true, true, true, true, true, true, true, true, true, true, false, false, false, false, false, false, false, false, false, false, false, false] rfl rfl (any_of HT_.out (by kernel_rfl)) (fun _ _ _ h => h) (Or.inr ⟨by rfl, rfl⟩) ?_ ?_
       rotate_left
       ·simp only [Act.put, List.setIfInBounds_toArray, List.set_cons_zero, List.set_cons_succ, i64_w, i32_w]
        rfl
       refine pure_ (i := 11) (N := some 104) (v := undef) (a' := ?_) #[true, true, true, true, true, true, true, true, true, true, true, true, false, false, false, false, false, false, false, false, false, false, false] rfl rfl (any_of HT_.out (by kernel_rfl)) (fun _ _ _ h => h) (Or.inr ⟨by rfl, rfl⟩) ?_ ?_
       rotate_left
       ·simp only [Act.put, List.setIfInBounds_toArray, List.set_cons_zero, List.set_cons_succ, i64_w, i32_w]
        rfl
       refine pure_ (i := 12) (N := some 105) (v := undef) (a' := ?_) #[true, true, true, true, true, true, true, true, true, true, true, true, true, false, false, false, false, false, false, false, false, false, false] rfl rfl (any_of HT_.out (by kernel_rfl)) (fun _ _ _ h => h) (Or.inr ⟨by rfl, rfl⟩) ?_ ?_
       rotate_left
       ·simp only [Act.put, List.setIfInBounds_toArray, List.set_cons_zero, List.set_cons_succ, i64_w, i32_w]
        rfl
       refine pure_ (i := 13) (N := some 106) (v := undef) (a' := ?_) #[true, true, true, true, true, true, true, true, true, true, true, true, true, true, false, false, false, false, false, false, false, false, false] rfl rfl (any_of HT_.out (by kernel_rfl)) (fun _ _ _ h => h) (Or.inr ⟨by rfl, rfl⟩) ?_ ?_
       rotate_left
       ·simp only [Act.put, List.setIfInBounds_toArray, List.set_cons_zero, List.set_cons_succ, i64_w, i32_w]
        rfl
       refine pure_ (i := 14) (N := some 107) (v := undef) (a' := ?_) #[true, true, true, true, true, true, true, true, true, true, true, true, true, true, true, false, false, false, false, false, false, false, false] rfl rfl (any_of HT_.out (by kernel_rfl)) (fun _ _ _ h => h) (Or.inr ⟨by rfl, rfl⟩) ?_ ?_
       rotate_left
       ·simp only [Act.put, List.setIfInBounds_toArray, List.set_cons_zero, List.set_cons_succ, i64_w, i32_w]
        rfl
       refine pure_ (i := 15) (N := some 108) (v := undef) (a' := ?_) #[true, true, true, true, true, true, true, true, true, true, true, true, true, true, true, true, false, false, false, false, false, false, false] rfl rfl (any_of HT_.out (by kernel_rfl)) (fun _ _ _ h => h) (Or.inr ⟨by rfl, rfl⟩) ?_ ?_
       rotate_left
       ·simp only [Act.put, List.setIfInBounds_toArray, List.set_cons_zero, List.set_cons_succ, i64_w, i32_w]
        rfl
       refine pure_ (i := 16) (N := some 109) (v := undef) (a' := ?_) #[true, true, true, true, true, true, true, true, true, true, true, true, true, true, true, true, true, false, false, false, false, false, false] rfl rfl (any_of HT_.out (by kernel_rfl)) (fun _ _ _ h => h) (Or.inr ⟨by rfl, rfl⟩) ?_ ?_
       rotate_left
       ·simp only [Act.put, List.setIfInBounds_toArray, List.set_cons_zero, List.set_cons_succ, i64_w, i32_w]
        rfl
       refine pure_ (i := 17) (N := some 110) (v := ?_) (a' := ?_) #[true, true, true, true, true, true, true, true, true, true, true, true, true, true, true, true, true, true, false, false, false, false, false] rfl rfl (any_of HT_.out (by kernel_rfl)) (fun _ _ _ h => h) (Or.inl ⟨by rfl, ?_⟩) ?_ ?_
       rotate_left
       ·intro w'
        go_simp; with_reducible rfl
       rotate_left
       ·simp only [Act.put, List.setIfInBounds_toArray, List.set_cons_zero, List.set_cons_succ, i64_w, i32_w]
        rfl
       refine pure_ (i := 18) (N := some 111) (v := ?_) (a' := ?_) #[true, true, true, true, true, true, true, true, true, true, true, true, true, true, true, true, true, true, true, false, false, false, false] rfl rfl (any_of HT_.out (by kernel_rfl)) (fun _ _ _ h => h) (Or.inl ⟨by rfl, ?_⟩) ?_ ?_
       rotate_left
       ·intro w'
        go_simp; with_reducible rfl
       rotate_left
       ·simp only [Act.put, List.setIfInBounds_toArray, List.set_cons_zero, List.set_cons_succ, i64_w, i32_w]
        rfl
       refine pure_ (i := 19) (N := some 112) (v := undef) (a' := ?_) #[true, true, true, true, true, true, true, true, true, true, true, true, true, true, true, true, true, true, true, true, false, false, false] rfl rfl (any_of HT_.out (by kernel_rfl)) (fun _ _ _ h => h) (Or.inr ⟨by rfl, rfl⟩) ?_ ?_
       rotate_left
       ·simp only [Act.put, List.setIfInBounds_toArray, List.set_cons_zero, List.set_cons_succ, i64_w, i32_w]
        rfl
       refine pure_ (i := 20) (N := some 113) (v := undef) (a' := ?_) #[true, true, true, true, true, true, true, true, true, true, true, true, true, true, true, true, true, true, true, true, true, false, false] rfl rfl (any_of HT_.out (by kernel_rfl)) (fun _ _ _ h => h) (Or.inr ⟨by rfl, rfl⟩) ?_ ?_
       rotate_left
       ·simp only [Act.put, List.setIfInBounds_toArray, List.set_cons_zero, List.set_cons_succ, i64_w, i32_w]
        rfl
       refine pure_ (i := 21) (N := some 114) (v := undef) (a' := ?_) #[true, true, true, true, true, true, true, true, true, true, true, true, true, true, true, true, true, true, true, true, true, true, false] rfl rfl (any_of HT_.out (by kernel_rfl)) (fun _ _ _ h => h) (Or.inr ⟨by rfl, rfl⟩) ?_ ?_
       rotate_left
       ·simp only [Act.put, List.setIfInBounds_toArray, List.set_cons_zero, List.set_cons_succ, i64_w, i32_w]
        rfl
       refine pure_ (i := 22) (N := some 115) (v := ?_) (a' := ?_) #[true, true, true, true, true, true, true, true, true, true, true, true, true, true, true, true, true, true, true, true, true, true, true] rfl rfl (any_of HT_.out (by kernel_rfl)) (fun _ _ _ h => h) (Or.inl ⟨by rfl, ?_⟩) ?_ ?_
       rotate_left
       ·intro w'
        go_simp; with_reducible rfl
       rotate_left
       ·simp only [Act.put, List.setIfInBounds_toArray, List.set_cons_zero, List.set_cons_succ, i64_w, i32_w]
        rfl
       refine done_ (done_of HT_.out (by kernel_rfl)) ?_
       try go_wp2
       go_meet
       case rel => exact ⟨_, (true), (by first | rfl | (simp; done) | (simp [*]; done)), H', ⟨by have := HJ6.out; first | omega | exact Nat.le_refl _⟩, ⟨by exact kA⟩, ⟨by exact kA⟩, ⟨by exact kA⟩, ⟨bA⟩⟩
      ·rw [if_neg c35] at H
       have c35b0 : decide ((IntKind.u64.wrap (Int.tdiv t295 2)) < t296) = false := decide_eq_false c35
       clear c35
       (first | rw [c35b0] | (simp only [i64_w, i32_w]; rw [c35b0]) | skip)
       replace H := Option.bind_eq_some_iff.mp H; obtain ⟨t297, A390, H⟩ := H; replace H : (if t297 = (IntKind.u64.wrap ((IntKind.u64.wrap (wrap64 (a0_0 * a0_6))) * 4294967296)) then ((config_Most.f kj6 a0_0 a0_1 a0_2 a0_3 a0_4 a0_5 a0_6 a0_7).bind fun t298 => (backfilllaw11_ConfigLaws.j1 kj6 t281 (wrap64 (a0_4 + (wrap64 (a0_5 * a0_0)))) (decide (t298 > 9223372036854775808)) a0_0 a0_1 a0_2 a0_3 a0_4 a0_5 a0_6 a0_7 t282 t283 t284 t285)) else (backfilllaw11_ConfigLaws.j1 kj6 t281 (wrap64 (a0_4 + (wrap64 (a0_5 * a0_0)))) true a0_0 a0_1 a0_2 a0_3 a0_4 a0_5 a0_6 a0_7 t282 t283 t284 t285)) = some r := H; have A39 := Aside0.mk A390; clear A390
       by_cases c40 : t297 = (IntKind.u64.wrap ((IntKind.u64.wrap (wrap64 (a0_0 * a0_6))) * 4294967296))
       ·rw [if_pos c40] at H
        have c40b0 : (t297 == (IntKind.u64.wrap ((IntKind.u64.wrap (wrap64 (a0_0 * a0_6))) * 4294967296))) = true := beq_iff_eq.mpr c40
        have c40b1 : (t297 != (IntKind.u64.wrap ((IntKind.u64.wrap (wrap64 (a0_0 * a0_6))) * 4294967296))) = false := bne_eq_false_iff_eq.mpr c40
        clear c40; replace H := Option.bind_eq_some_iff.mp H; obtain ⟨t298, A410, H⟩ := H; replace H : (backfilllaw11_ConfigLaws.j1 kj6 t281 (wrap64 (a0_4 + (wrap64 (a0_5 * a0_0)))) (decide (t298 > 9223372036854775808)) a0_0 a0_1 a0_2 a0_3 a0_4 a0_5 a0_6 a0_7 t282 t283 t284 t285) = some r := H; have A41 := Aside0.mk A410; clear A410
        have H' := Aside0.mk H
        clear H
        try go_wp2
        have n0_ := Aside0.mk (blk_drew BK280.out); have n1_ := Aside0.mk (blk_drew BK286.out); have n2_ := Aside0.mk (blk_drew BK287.out); have n3_ := Aside0.mk (below_drew1 HB.out); clear BK280 BK286 BK287 HB; have BK280 := n0_; have BK286 := n1_; have BK287 := n2_; have HB := n3_; clear n0_ n1_ n2_ n3_
        refine start_ (n := 23) (S := fun w' => w'.cell? ⟨gb280, 0, none⟩ = some (.int .i64 a0_0) ∧ w'.cell? ⟨gb280, 1, none⟩ = some (.int .i64 a0_1) ∧ w'.cell? ⟨gb280, 2, none⟩ = some (.int .i64 a0_2) ∧ w'.cell? ⟨gb280, 3, none⟩ = some (.int .i64 a0_3) ∧ w'.cell? ⟨gb280, 4, none⟩ = some (.int .i64 a0_4) ∧ w'.cell? ⟨gb280, 5, none⟩ = some (.int .i64 a0_5) ∧ w'.cell? ⟨gb280, 6, none⟩ = some (.int .i64 a0_6) ∧ w'.cell? ⟨gb280, 7, none⟩ = some (.int .i64 a0_7)) (ds := []) #[false, false, false, false, false, false, false, false, false, false, false, false, false, false, false, false, false, false, false, false, false, false, false] (by kernel_rfl) rfl rfl ⟨(blk_cell BK280.out 0).trans rfl, (blk_cell BK280.out 1).trans rfl, (blk_cell BK280.out 2).trans rfl, (blk_cell BK280.out 3).trans rfl, (blk_cell BK280.out 4).trans rfl, (blk_cell BK280.out 5).trans rfl, (blk_cell BK280.out 6).trans rfl, (blk_cell BK280.out 7).trans rfl⟩ (fun hHeld => ?_); refine with_tabW backfilllaw11_ConfigLaws.tab9 backfilllaw11_ConfigLaws.bits9 (fun HT_ HW_ => ?_)
        generalize wc.drew = w42 at BK280 BK286 BK287 HB hHeld ⊢
        refine take_ (i := 0) (N := some 93) (v := ?_) (a' := ?_) #[true, false, false, false, false, false, false, false, false, false, false, false, false, false, false, false, false, false, false, false, false, false, false] rfl rfl (take_ofW HT_.out HW_.out (by kernel_rfl)) (fun _ _ _ h => h) (Or.inl ⟨by rfl, ?_⟩) hHeld ?_ ?_
        rotate_left
        ·rintro w' ⟨s0, s1, s2, s3, s4, s5, s6, s7⟩
         go_simp; with_reducible rfl
        rotate_left
        ·simp only [Act.put, List.setIfInBounds_toArray, List.set_cons_zero, List.set_cons_succ, i64_w, i32_w]
         rfl
        refine take_ (i := 3) (N := some 96) (v := ?_) (a' := ?_) #[true, false, false, true, false, false, false, false, false, false, false, false, false, false, false, false, false, false, false, false, false, false, false] rfl rfl (take_ofW HT_.out HW_.out (by kernel_rfl)) (fun _ _ _ h => h) (Or.inl ⟨by rfl, ?_⟩) hHeld ?_ ?_
        rotate_left
        ·rintro w' ⟨s0, s1, s2, s3, s4, s5, s6, s7⟩
         go_simp; with_reducible rfl
        rotate_left
        ·simp only [Act.put, List.setIfInBounds_toArray, List.set_cons_zero, List.set_cons_succ, i64_w, i32_w]
         rfl
        refine one_ (i := 1) (N := some 94) #[true, true, false, true, false, false, false, false, false, false, false, false, false, false, false, false, false, false, false, false, false, false, false] rfl rfl (one_of HT_.out (by kernel_rfl)) (by decide) (fun K hK => ?_)
        refine goes_ Try.func33 (by kernel_rfl) rfl #[.agg #[.int .i64 a0_0, .int .i64 a0_1, .int .i64 a0_2, .int .i64 a0_3, .int .i64 a0_4, .int .i64 a0_5, .int .i64 a0_6, .int .i64 a0_7]] (by rfl) rfl rfl aA ?_
        with_reducible refine (config_Most.calls kj6 a0_0 a0_1 a0_2 a0_3 a0_4 a0_5 a0_6 a0_7 t295 _ A33.out).mono ?_
        rintro e w43 ⟨rfl, hb⟩
        refine ⟨_, rfl, ?_⟩; have n0_ := Aside0.mk (blk_below (g := gb280) kA hb); have n1_ := Aside0.mk (blk_below (g := gb286) kA hb); have n2_ := Aside0.mk (blk_below (g := gb287) kA hb); have n3_ := Aside0.mk (below_step bA hb); clear BK280 BK286 BK287 HB; have BK280 := n0_; have BK286 := n1_; have BK287 := n2_; have HB := n3_; clear n0_ n1_ n2_ n3_; (try clear hb)
        refine hK.out _ _ ⟨(blk_cell BK280.out 0).trans rfl, (blk_cell BK280.out 1).trans rfl, (blk_cell BK280.out 2).trans rfl, (blk_cell BK280.out 3).trans rfl, (blk_cell BK280.out 4).trans rfl, (blk_cell BK280.out 5).trans rfl, (blk_cell BK280.out 6).trans rfl, (blk_cell BK280.out 7).trans rfl⟩ (fun hHeld => ?_)
        clear hK K
        refine norm_ (a' := ?_) ?_ ?_
        rotate_left
        ·show Act.put _ (some 94) _ = _
         simp only [Act.put, List.setIfInBounds_toArray, List.set_cons_zero, List.set_cons_succ, i64_w, i32_w]
         rfl
        refine pure_ (i := 2) (N := some 95) (v := ?_) (a' := ?_) #[true, true, true, true, false, false, false, false, false, false, false, false, false, false, false, false, false, false, false, false, false, false, false] rfl rfl (any_of HT_.out (by kernel_rfl)) (fun _ _ _ h => h) (Or.inl ⟨by rfl, ?_⟩) ?_ ?_
        rotate_left
        ·intro w'
         go_simp; with_reducible rfl
        rotate_left
        ·simp only [Act.put, List.setIfInBounds_toArray, List.set_cons_zero, List.set_cons_succ, i64_w, i32_w]
         rfl
        refine one_ (i := 4) (N := some 97) #[true, true, true, true, true, false, false, false, false, false, false, false, false, false, false, false, false, false, false, false, false, false, false] rfl rfl (one_of HT_.out (by kernel_rfl)) (by decide) (fun K hK => ?_)
        refine goes_ Try.func35 (by kernel_rfl) rfl #[.agg #[.int .i64 a0_0, .int .i64 a0_1, .int .i64 a0_2, .int .i64 a0_3, .int .i64 a0_4, .int .i64 a0_5, .int .i64 a0_6, .int .i64 a0_7]] (by rfl) rfl rfl aA ?_
        with_reducible refine (config_Floor.calls kj6 a0_0 a0_1 a0_2 a0_3 a0_4 a0_5 a0_6 a0_7 t296 _ A34.out).mono ?_
        rintro e w44 ⟨rfl, hb⟩
        refine ⟨_, rfl, ?_⟩; have n0_ := Aside0.mk (blk_below (g := gb280) kA hb); have n1_ := Aside0.mk (blk_below (g := gb286) kA hb); have n2_ := Aside0.mk (blk_below (g := gb287) kA hb); have n3_ := Aside0.mk (below_step bA hb); clear BK280 BK286 BK287 HB; have BK280 := n0_; have BK286 := n1_; have BK287 := n2_; have HB := n3_; clear n0_ n1_ n2_ n3_; (try clear hb)
        refine hK.out _ _ ⟨(blk_cell BK280.out 0).trans rfl, (blk_cell BK280.out 1).trans rfl, (blk_cell BK280.out 2).trans rfl, (blk_cell BK280.out 3).trans rfl, (blk_cell BK280.out 4).trans rfl, (blk_cell BK280.out 5).trans rfl, (blk_cell BK280.out 6).trans rfl, (blk_cell BK280.out 7).trans rfl⟩ (fun hHeld => ?_)
        clear hK K
        refine norm_ (a' := ?_) ?_ ?_
        rotate_left
        ·show Act.put _ (some 97) _ = _
         simp only [Act.put, List.setIfInBounds_toArray, List.set_cons_zero, List.set_cons_succ, i64_w, i32_w]
         rfl
        refine pure_ (i := 5) (N := some 98) (v := ?_) (a' := ?_) #[true, true, true, true, true, true, false, false, false, false, false, false, false, false, false, false, false, false, false, false, false, false, false] rfl rfl (any_of HT_.out (by kernel_rfl)) (fun _ _ _ h => h) (Or.inl ⟨by rfl, ?_⟩) ?_ ?_
        rotate_left
        ·intro w'
         go_simp; with_reducible rfl
        rotate_left
        ·simp only [Act.put, List.setIfInBounds_toArray, List.set_cons_zero, List.set_cons_succ, i64_w, i32_w]
         rfl
        refine pure_ (i := 6) (N := some 99) (v := ?_) (a' := ?_) #[true, true, true, true, true, true, true, false, false, false, false, false, false, false, false, false, false, false, false, false, false, false, false] rfl rfl (any_of HT_.out (by kernel_rfl)) (fun _ _ _ h => h) (Or.inl ⟨by rfl, ?_⟩) ?_ ?_
        rotate_left
        ·intro w'
         go_simp; with_reducible rfl
        rotate_left
        ·simp only [Act.put, List.setIfInBounds_toArray, List.set_cons_zero, List.set_cons_succ, i64_w, i32_w]
         rfl
        refine pure_ (i := 9) (N := some 102) (v := ?_) (a' := ?_) #[true, true, true, true, true, true, true, false, false, true, false, false, false, false, false, false, false, false, false, false, false, false, false] rfl rfl (any_of HT_.out (by kernel_rfl)) (fun _ _ _ h => h) (Or.inl ⟨by rfl, ?_⟩) ?_ ?_
        rotate_left
        ·intro w'
         go_simp; with_reducible rfl
        rotate_left
        ·simp only [Act.put, List.setIfInBounds_toArray, List.set_cons_zero, List.set_cons_succ, i64_w, i32_w]
         rfl
        refine pure_ (i := 11) (N := some 104) (v := ?_) (a' := ?_) #[true, true, true, true, true, true, true, false, false, true, false, true, false, false, false, false, false, false, false, false, false, false, false] rfl rfl (any_of HT_.out (by kernel_rfl)) (fun _ _ _ h => h) (Or.inl ⟨by rfl, ?_⟩) ?_ ?_
        rotate_left
        ·intro w'
         go_simp; with_reducible rfl
        rotate_left
        ·simp only [Act.put, List.setIfInBounds_toArray, List.set_cons_zero, List.set_cons_succ, i64_w, i32_w]
         rfl
        refine take_ (i := 7) (N := some 100) (v := ?_) (a' := ?_) #[true, true, true, true, true, true, true, true, false, true, false, true, false, false, false, false, false, false, false, false, false, false, false] rfl rfl (take_ofW HT_.out HW_.out (by kernel_rfl)) (fun _ _ _ h => h) (Or.inl ⟨by rfl, ?_⟩) hHeld ?_ ?_
        rotate_left
        ·rintro w' ⟨s0, s1, s2, s3, s4, s5, s6, s7⟩
         go_simp; with_reducible rfl
        rotate_left
        ·simp only [Act.put, List.setIfInBounds_toArray, List.set_cons_zero, List.set_cons_succ, i64_w, i32_w]
         rfl
        refine take_ (i := 10) (N := some 103) (v := ?_) (a' := ?_) #[true, true, true, true, true, true, true, true, false, true, true, true, false, false, false, false, false, false, false, false, false, false, false] rfl rfl (take_ofW HT_.out HW_.out (by kernel_rfl)) (fun _ _ _ h => h) (Or.inl ⟨by rfl, ?_⟩) hHeld ?_ ?_
        rotate_left
        ·rintro w' ⟨s0, s1, s2, s3, s4, s5, s6, s7⟩
         go_simp; with_reducible rfl
        rotate_left
        ·simp only [Act.put, List.setIfInBounds_toArray, List.set_cons_zero, List.set_cons_succ, i64_w, i32_w]
         rfl
        refine take_ (i := 12) (N := some 105) (v := ?_) (a' := ?_) #[true, true, true, true, true, true, true, true, false, true, true, true, true, false, false, false, false, false, false, false, false, false, false] rfl rfl (take_ofW HT_.out HW_.out (by kernel_rfl)) (fun _ _ _ h => h) (Or.inl ⟨by rfl, ?_⟩) hHeld ?_ ?_
        rotate_left
        ·rintro w' ⟨s0, s1, s2, s3, s4, s5, s6, s7⟩
         go_simp; with_reducible rfl
        rotate_left
        ·simp only [Act.put, List.setIfInBounds_toArray, List.set_cons_zero, List.set_cons_succ, i64_w, i32_w]
         rfl
        refine pure_ (i := 13) (N := some 106) (v := ?_) (a' := ?_) #[true, true, true, true, true, true, true, true, false, true, true, true, true, true, false, false, false, false, false, false, false, false, false] rfl rfl (any_of HT_.out (by kernel_rfl)) (fun _ _ _ h => h) (Or.inl ⟨by rfl, ?_⟩) ?_ ?_
        rotate_left
        ·intro w'
         go_simp; with_reducible rfl
        rotate_left
        ·simp only [Act.put, List.setIfInBounds_toArray, List.set_cons_zero, List.set_cons_succ, i64_w, i32_w]
         rfl
        refine pure_ (i := 14) (N := some 107) (v := ?_) (a' := ?_) #[true, true, true, true, true, true, true, true, false, true, true, true, true, true, true, false, false, false, false, false, false, false, false] rfl rfl (any_of HT_.out (by kernel_rfl)) (fun _ _ _ h => h) (Or.inl ⟨by rfl, ?_⟩) ?_ ?_
        rotate_left
        ·intro w'
         go_simp; with_reducible rfl
        rotate_left
        ·simp only [Act.put, List.setIfInBounds_toArray, List.set_cons_zero, List.set_cons_succ, i64_w, i32_w]
         rfl
        refine pure_ (i := 15) (N := some 108) (v := ?_) (a' := ?_) #[true, true, true, true, true, true, true, true, false, true, true, true, true, true, true, true, false, false, false, false, false, false, false] rfl rfl (any_of HT_.out (by kernel_rfl)) (fun _ _ _ h => h) (Or.inl ⟨by rfl, ?_⟩) ?_ ?_
        rotate_left
        ·intro w'
         go_simp; with_reducible rfl
        rotate_left
        ·simp only [Act.put, List.setIfInBounds_toArray, List.set_cons_zero, List.set_cons_succ, i64_w, i32_w]
         rfl
        refine one_ (i := 8) (N := some 101) #[true, true, true, true, true, true, true, true, true, true, true, true, true, true, true, true, false, false, false, false, false, false, false] rfl rfl (one_of HT_.out (by kernel_rfl)) (by decide) (fun K hK => ?_)
        refine goes_ Try.func35 (by kernel_rfl) rfl #[.agg #[.int .i64 a0_0, .int .i64 a0_1, .int .i64 a0_2, .int .i64 a0_3, .int .i64 a0_4, .int .i64 a0_5, .int .i64 a0_6, .int .i64 a0_7]] (by rfl) rfl rfl aA ?_
        with_reducible refine (config_Floor.calls kj6 a0_0 a0_1 a0_2 a0_3 a0_4 a0_5 a0_6 a0_7 t297 _ A39.out).mono ?_
        rintro e w45 ⟨rfl, hb⟩
        refine ⟨_, rfl, ?_⟩; have n0_ := Aside0.mk (blk_below (g := gb280) kA hb); have n1_ := Aside0.mk (blk_below (g := gb286) kA hb); have n2_ := Aside0.mk (blk_below (g := gb287) kA hb); have n3_ := Aside0.mk (below_step bA hb); clear BK280 BK286 BK287 HB; have BK280 := n0_; have BK286 := n1_; have BK287 := n2_; have HB := n3_; clear n0_ n1_ n2_ n3_; (try clear hb)
        refine hK.out _ _ ⟨(blk_cell BK280.out 0).trans rfl, (blk_cell BK280.out 1).trans rfl, (blk_cell BK280.out 2).trans rfl, (blk_cell BK280.out 3).trans rfl, (blk_cell BK280.out 4).trans rfl, (blk_cell BK280.out 5).trans rfl, (blk_cell BK280.out 6).trans rfl, (blk_cell BK280.out 7).trans rfl⟩ (fun hHeld => ?_)
        clear hK K
        refine norm_ (a' := ?_) ?_ ?_
        rotate_left
        ·show Act.put _ (some 101) _ = _
         simp only [Act.put, List.setIfInBounds_toArray, List.set_cons_zero, List.set_cons_succ, i64_w, i32_w]
         rfl
        refine pure_ (i := 16) (N := some 109) (v := ?_) (a' := ?_) #[true, true, true, true, true, true, true, true, true, true, true, true, true, true, true, true, true, false, false, false, false, false, false] rfl rfl (any_of HT_.out (by kernel_rfl)) (fun _ _ _ h => h) (Or.inl ⟨by rfl, ?_⟩) ?_ ?_
        rotate_left
        ·intro w'
         go_simp; with_reducible rfl
        rotate_left
        ·simp only [Act.put, List.setIfInBounds_toArray, List.set_cons_zero, List.set_cons_succ, i64_w, i32_w]
         rfl
        refine pure_ (i := 17) (N := some 110) (v := ?_) (a' := ?_) #[true, true, true, true, true, true, true, true, true, true, true, true, true, true, true, true, true, true, false, false, false, false, false] rfl rfl (any_of HT_.out (by kernel_rfl)) (fun _ _ _ h => h) (Or.inl ⟨by rfl, ?_⟩) ?_ ?_
        rotate_left
        ·intro w'
         go_simp; with_reducible rfl
        rotate_left
        ·simp only [Act.put, List.setIfInBounds_toArray, List.set_cons_zero, List.set_cons_succ, i64_w, i32_w]
         rfl
        refine pure_ (i := 18) (N := some 111) (v := ?_) (a' := ?_) #[true, true, true, true, true, true, true, true, true, true, true, true, true, true, true, true, true, true, true, false, false, false, false] rfl rfl (any_of HT_.out (by kernel_rfl)) (fun _ _ _ h => h) (Or.inl ⟨by rfl, ?_⟩) ?_ ?_
        rotate_left
        ·intro w'
         go_simp; with_reducible rfl
        rotate_left
        ·simp only [Act.put, List.setIfInBounds_toArray, List.set_cons_zero, List.set_cons_succ, i64_w, i32_w]
         rfl
        refine take_ (i := 19) (N := some 112) (v := ?_) (a' := ?_) #[true, true, true, true, true, true, true, true, true, true, true, true, true, true, true, true, true, true, true, true, false, false, false] rfl rfl (take_ofW HT_.out HW_.out (by kernel_rfl)) (fun _ _ _ h => h) (Or.inl ⟨by rfl, ?_⟩) hHeld ?_ ?_
        rotate_left
        ·rintro w' ⟨s0, s1, s2, s3, s4, s5, s6, s7⟩
         go_simp; with_reducible rfl
        rotate_left
        ·simp only [Act.put, List.setIfInBounds_toArray, List.set_cons_zero, List.set_cons_succ, i64_w, i32_w]
         rfl
        refine one_ (i := 20) (N := some 113) #[true, true, true, true, true, true, true, true, true, true, true, true, true, true, true, true, true, true, true, true, true, false, false] rfl rfl (one_of HT_.out (by kernel_rfl)) (by decide) (fun K hK => ?_)
        refine goes_ Try.func33 (by kernel_rfl) rfl #[.agg #[.int .i64 a0_0, .int .i64 a0_1, .int .i64 a0_2, .int .i64 a0_3, .int .i64 a0_4, .int .i64 a0_5, .int .i64 a0_6, .int .i64 a0_7]] (by rfl) rfl rfl aA ?_
        with_reducible refine (config_Most.calls kj6 a0_0 a0_1 a0_2 a0_3 a0_4 a0_5 a0_6 a0_7 t298 _ A41.out).mono ?_
        rintro e w46 ⟨rfl, hb⟩
        refine ⟨_, rfl, ?_⟩; have n0_ := Aside0.mk (blk_below (g := gb280) kA hb); have n1_ := Aside0.mk (blk_below (g := gb286) kA hb); have n2_ := Aside0.mk (blk_below (g := gb287) kA hb); have n3_ := Aside0.mk (below_step bA hb); clear BK280 BK286 BK287 HB; have BK280 := n0_; have BK286 := n1_; have BK287 := n2_; have HB := n3_; clear n0_ n1_ n2_ n3_; (try clear hb)
        refine hK.out _ _ ⟨(blk_cell BK280.out 0).trans rfl, (blk_cell BK280.out 1).trans rfl, (blk_cell BK280.out 2).trans rfl, (blk_cell BK280.out 3).trans rfl, (blk_cell BK280.out 4).trans rfl, (blk_cell BK280.out 5).trans rfl, (blk_cell BK280.out 6).trans rfl, (blk_cell BK280.out 7).trans rfl⟩ (fun hHeld => ?_)
        clear hK K
        refine norm_ (a' := ?_) ?_ ?_
        rotate_left
        ·show Act.put _ (some 113) _ = _
         simp only [Act.put, List.setIfInBounds_toArray, List.set_cons_zero, List.set_cons_succ, i64_w, i32_w]
         rfl
        refine pure_ (i := 21) (N := some 114) (v := ?_) (a' := ?_) #[true, true, true, true, true, true, true, true, true, true, true, true, true, true, true, true, true, true, true, true, true, true, false] rfl rfl (any_of HT_.out (by kernel_rfl)) (fun _ _ _ h => h) (Or.inl ⟨by rfl, ?_⟩) ?_ ?_
        rotate_left
        ·intro w'
         go_simp; with_reducible rfl
        rotate_left
        ·simp only [Act.put, List.setIfInBounds_toArray, List.set_cons_zero, List.set_cons_succ, i64_w, i32_w]
         rfl
        refine pure_ (i := 22) (N := some 115) (v := ?_) (a' := ?_) #[true, true, true, true, true, true, true, true, true, true, true, true, true, true, true, true, true, true, true, true, true, true, true] rfl rfl (any_of HT_.out (by kernel_rfl)) (fun _ _ _ h => h) (Or.inl ⟨by rfl, ?_⟩) ?_ ?_
        rotate_left
        ·intro w'
         go_simp; with_reducible rfl
        rotate_left
        ·simp only [Act.put, List.setIfInBounds_toArray, List.set_cons_zero, List.set_cons_succ, i64_w, i32_w]
         rfl
        refine done_ (done_of HT_.out (by kernel_rfl)) ?_
        try go_wp2
        go_meet
        case rel => exact ⟨_, (decide (t298 > 9223372036854775808)), (by first | rfl | (simp; done) | (simp [*]; done)), H', ⟨by have := HJ6.out; first | omega | exact Nat.le_refl _⟩, ⟨by exact kA⟩, ⟨by exact kA⟩, ⟨by exact kA⟩, ⟨bA⟩⟩
       ·rw [if_neg c40] at H
        have c40b0 : (t297 == (IntKind.u64.wrap ((IntKind.u64.wrap (wrap64 (a0_0 * a0_6))) * 4294967296))) = false := beq_eq_false_iff_ne.mpr c40
        have c40b1 : (t297 != (IntKind.u64.wrap ((IntKind.u64.wrap (wrap64 (a0_0 * a0_6))) * 4294967296))) = true := bne_iff_ne.mpr c40
        have H' := Aside0.mk H
        clear H
        try go_wp2
        have n0_ := Aside0.mk (blk_drew BK280.out); have n1_ := Aside0.mk (blk_drew BK286.out); have n2_ := Aside0.mk (blk_drew BK287.out); have n3_ := Aside0.mk (below_drew1 HB.out); clear BK280 BK286 BK287 HB; have BK280 := n0_; have BK286 := n1_; have BK287 := n2_; have HB := n3_; clear n0_ n1_ n2_ n3_
        refine start_ (n := 23) (S := fun w' => w'.cell? ⟨gb280, 0, none⟩ = some (.int .i64 a0_0) ∧ w'.cell? ⟨gb280, 1, none⟩ = some (.int .i64 a0_1) ∧ w'.cell? ⟨gb280, 2, none⟩ = some (.int .i64 a0_2) ∧ w'.cell? ⟨gb280, 3, none⟩ = some (.int .i64 a0_3) ∧ w'.cell? ⟨gb280, 4, none⟩ = some (.int .i64 a0_4) ∧ w'.cell? ⟨gb280, 5, none⟩ = some (.int .i64 a0_5) ∧ w'.cell? ⟨gb280, 6, none⟩ = some (.int .i64 a0_6) ∧ w'.cell? ⟨gb280, 7, none⟩ = some (.int .i64 a0_7)) (ds := []) #[false, false, false, false, false, false, false, false, false, false, false, false, false, false, false, false, false, false, false, false, false, false, false] (by kernel_rfl) rfl rfl ⟨(blk_cell BK280.out 0).trans rfl, (blk_cell BK280.out 1).trans rfl, (blk_cell BK280.out 2).trans rfl, (blk_cell BK280.out 3).trans rfl, (blk_cell BK280.out 4).trans rfl, (blk_cell BK280.out 5).trans rfl, (blk_cell BK280.out 6).trans rfl, (blk_cell BK280.out 7).trans rfl⟩ (fun hHeld => ?_); refine with_tabW backfilllaw11_ConfigLaws.tab9 backfilllaw11_ConfigLaws.bits9 (fun HT_ HW_ => ?_)
        generalize wc.drew = w47 at BK280 BK286 BK287 HB hHeld ⊢
        refine take_ (i := 0) (N := some 93) (v := ?_) (a' := ?_) #[true, false, false, false, false, false, false, false, false, false, false, false, false, false, false, false, false, false, false, false, false, false, false] rfl rfl (take_ofW HT_.out HW_.out (by kernel_rfl)) (fun _ _ _ h => h) (Or.inl ⟨by rfl, ?_⟩) hHeld ?_ ?_
        rotate_left
        ·rintro w' ⟨s0, s1, s2, s3, s4, s5, s6, s7⟩
         go_simp; with_reducible rfl
        rotate_left
        ·simp only [Act.put, List.setIfInBounds_toArray, List.set_cons_zero, List.set_cons_succ, i64_w, i32_w]
         rfl
        refine take_ (i := 3) (N := some 96) (v := ?_) (a' := ?_) #[true, false, false, true, false, false, false, false, false, false, false, false, false, false, false, false, false, false, false, false, false, false, false] rfl rfl (take_ofW HT_.out HW_.out (by kernel_rfl)) (fun _ _ _ h => h) (Or.inl ⟨by rfl, ?_⟩) hHeld ?_ ?_
        rotate_left
        ·rintro w' ⟨s0, s1, s2, s3, s4, s5, s6, s7⟩
         go_simp; with_reducible rfl
        rotate_left
        ·simp only [Act.put, List.setIfInBounds_toArray, List.set_cons_zero, List.set_cons_succ, i64_w, i32_w]
         rfl
        refine one_ (i := 1) (N := some 94) #[true, true, false, true, false, false, false, false, false, false, false, false, false, false, false, false, false, false, false, false, false, false, false] rfl rfl (one_of HT_.out (by kernel_rfl)) (by decide) (fun K hK => ?_)
        refine goes_ Try.func33 (by kernel_rfl) rfl #[.agg #[.int .i64 a0_0, .int .i64 a0_1, .int .i64 a0_2, .int .i64 a0_3, .int .i64 a0_4, .int .i64 a0_5, .int .i64 a0_6, .int .i64 a0_7]] (by rfl) rfl rfl aA ?_
        with_reducible refine (config_Most.calls kj6 a0_0 a0_1 a0_2 a0_3 a0_4 a0_5 a0_6 a0_7 t295 _ A33.out).mono ?_
        rintro e w48 ⟨rfl, hb⟩
        refine ⟨_, rfl, ?_⟩; have n0_ := Aside0.mk (blk_below (g := gb280) kA hb); have n1_ := Aside0.mk (blk_below (g := gb286) kA hb); have n2_ := Aside0.mk (blk_below (g := gb287) kA hb); have n3_ := Aside0.mk (below_step bA hb); clear BK280 BK286 BK287 HB; have BK280 := n0_; have BK286 := n1_; have BK287 := n2_; have HB := n3_; clear n0_ n1_ n2_ n3_; (try clear hb)
        refine hK.out _ _ ⟨(blk_cell BK280.out 0).trans rfl, (blk_cell BK280.out 1).trans rfl, (blk_cell BK280.out 2).trans rfl, (blk_cell BK280.out 3).trans rfl, (blk_cell BK280.out 4).trans rfl, (blk_cell BK280.out 5).trans rfl, (blk_cell BK280.out 6).trans rfl, (blk_cell BK280.out 7).trans rfl⟩ (fun hHeld => ?_)
        clear hK K
        refine norm_ (a' := ?_) ?_ ?_
        rotate_left
        ·show Act.put _ (some 94) _ = _
         simp only [Act.put, List.setIfInBounds_toArray, List.set_cons_zero, List.set_cons_succ, i64_w, i32_w]
         rfl
        refine pure_ (i := 2) (N := some 95) (v := ?_) (a' := ?_) #[true, true, true, true, false, false, false, false, false, false, false, false, false, false, false, false, false, false, false, false, false, false, false] rfl rfl (any_of HT_.out (by kernel_rfl)) (fun _ _ _ h => h) (Or.inl ⟨by rfl, ?_⟩) ?_ ?_
        rotate_left
        ·intro w'
         go_simp; with_reducible rfl
        rotate_left
        ·simp only [Act.put, List.setIfInBounds_toArray, List.set_cons_zero, List.set_cons_succ, i64_w, i32_w]
         rfl
        refine one_ (i := 4) (N := some 97) #[true, true, true, true, true, false, false, false, false, false, false, false, false, false, false, false, false, false, false, false, false, false, false] rfl rfl (one_of HT_.out (by kernel_rfl)) (by decide) (fun K hK => ?_)
        refine goes_ Try.func35 (by kernel_rfl) rfl #[.agg #[.int .i64 a0_0, .int .i64 a0_1, .int .i64 a0_2, .int .i64 a0_3, .int .i64 a0_4, .int .i64 a0_5, .int .i64 a0_6, .int .i64 a0_7]] (by rfl) rfl rfl aA ?_
        with_reducible refine (config_Floor.calls kj6 a0_0 a0_1 a0_2 a0_3 a0_4 a0_5 a0_6 a0_7 t296 _ A34.out).mono ?_
        rintro e w49 ⟨rfl, hb⟩
        refine ⟨_, rfl, ?_⟩; have n0_ := Aside0.mk (blk_below (g := gb280) kA hb); have n1_ := Aside0.mk (blk_below (g := gb286) kA hb); have n2_ := Aside0.mk (blk_below (g := gb287) kA hb); have n3_ := Aside0.mk (below_step bA hb); clear BK280 BK286 BK287 HB; have BK280 := n0_; have BK286 := n1_; have BK287 := n2_; have HB := n3_; clear n0_ n1_ n2_ n3_; (try clear hb)
        refine hK.out _ _ ⟨(blk_cell BK280.out 0).trans rfl, (blk_cell BK280.out 1).trans rfl, (blk_cell BK280.out 2).trans rfl, (blk_cell BK280.out 3).trans rfl, (blk_cell BK280.out 4).trans rfl, (blk_cell BK280.out 5).trans rfl, (blk_cell BK280.out 6).trans rfl, (blk_cell BK280.out 7).trans rfl⟩ (fun hHeld => ?_)
        clear hK K
        refine norm_ (a' := ?_) ?_ ?_
        rotate_left
        ·show Act.put _ (some 97) _ = _
         simp only [Act.put, List.setIfInBounds_toArray, List.set_cons_zero, List.set_cons_succ, i64_w, i32_w]
         rfl
        refine pure_ (i := 5) (N := some 98) (v := ?_) (a' := ?_) #[true, true, true, true, true, true, false, false, false, false, false, false, false, false, false, false, false, false, false, false, false, false, false] rfl rfl (any_of HT_.out (by kernel_rfl)) (fun _ _ _ h => h) (Or.inl ⟨by rfl, ?_⟩) ?_ ?_
        rotate_left
        ·intro w'
         go_simp; with_reducible rfl
        rotate_left
        ·simp only [Act.put, List.setIfInBounds_toArray, List.set_cons_zero, List.set_cons_succ, i64_w, i32_w]
         rfl
        refine pure_ (i := 6) (N := some 99) (v := ?_) (a' := ?_) #[true, true, true, true, true, true, true, false, false, false, false, false, false, false, false, false, false, false, false, false, false, false, false] rfl rfl (any_of HT_.out (by kernel_rfl)) (fun _ _ _ h => h) (Or.inl ⟨by rfl, ?_⟩) ?_ ?_
        rotate_left
        ·intro w'
         go_simp; with_reducible rfl
        rotate_left
        ·simp only [Act.put, List.setIfInBounds_toArray, List.set_cons_zero, List.set_cons_succ, i64_w, i32_w]
         rfl
        refine pure_ (i := 9) (N := some 102) (v := ?_) (a' := ?_) #[true, true, true, true, true, true, true, false, false, true, false, false, false, false, false, false, false, false, false, false, false, false, false] rfl rfl (any_of HT_.out (by kernel_rfl)) (fun _ _ _ h => h) (Or.inl ⟨by rfl, ?_⟩) ?_ ?_
        rotate_left
        ·intro w'
         go_simp; with_reducible rfl
        rotate_left
        ·simp only [Act.put, List.setIfInBounds_toArray, List.set_cons_zero, List.set_cons_succ, i64_w, i32_w]
         rfl
        refine pure_ (i := 11) (N := some 104) (v := ?_) (a' := ?_) #[true, true, true, true, true, true, true, false, false, true, false, true, false, false, false, false, false, false, false, false, false, false, false] rfl rfl (any_of HT_.out (by kernel_rfl)) (fun _ _ _ h => h) (Or.inl ⟨by rfl, ?_⟩) ?_ ?_
        rotate_left
        ·intro w'
         go_simp; with_reducible rfl
        rotate_left
        ·simp only [Act.put, List.setIfInBounds_toArray, List.set_cons_zero, List.set_cons_succ, i64_w, i32_w]
         rfl
        refine take_ (i := 7) (N := some 100) (v := ?_) (a' := ?_) #[true, true, true, true, true, true, true, true, false, true, false, true, false, false, false, false, false, false, false, false, false, false, false] rfl rfl (take_ofW HT_.out HW_.out (by kernel_rfl)) (fun _ _ _ h => h) (Or.inl ⟨by rfl, ?_⟩) hHeld ?_ ?_
        rotate_left
        ·rintro w' ⟨s0, s1, s2, s3, s4, s5, s6, s7⟩
         go_simp; with_reducible rfl
        rotate_left
        ·simp only [Act.put, List.setIfInBounds_toArray, List.set_cons_zero, List.set_cons_succ, i64_w, i32_w]
         rfl
        refine take_ (i := 10) (N := some 103) (v := ?_) (a' := ?_) #[true, true, true, true, true, true, true, true, false, true, true, true, false, false, false, false, false, false, false, false, false, false, false] rfl rfl (take_ofW HT_.out HW_.out (by kernel_rfl)) (fun _ _ _ h => h) (Or.inl ⟨by rfl, ?_⟩) hHeld ?_ ?_
        rotate_left
        ·rintro w' ⟨s0, s1, s2, s3, s4, s5, s6, s7⟩
         go_simp; with_reducible rfl
        rotate_left
        ·simp only [Act.put, List.setIfInBounds_toArray, List.set_cons_zero, List.set_cons_succ, i64_w, i32_w]
         rfl
        refine take_ (i := 12) (N := some 105) (v := ?_) (a' := ?_) #[true, true, true, true, true, true, true, true, false, true, true, true, true, false, false, false, false, false, false, false, false, false, false] rfl rfl (take_ofW HT_.out HW_.out (by kernel_rfl)) (fun _ _ _ h => h) (Or.inl ⟨by rfl, ?_⟩) hHeld ?_ ?_
        rotate_left
        ·rintro w' ⟨s0, s1, s2, s3, s4, s5, s6, s7⟩
         go_simp; with_reducible rfl
        rotate_left
        ·simp only [Act.put, List.setIfInBounds_toArray, List.set_cons_zero, List.set_cons_succ, i64_w, i32_w]
         rfl
        refine pure_ (i := 13) (N := some 106) (v := ?_) (a' := ?_) #[true, true, true, true, true, true, true, true, false, true, true, true, true, true, false, false, false, false, false, false, false, false, false] rfl rfl (any_of HT_.out (by kernel_rfl)) (fun _ _ _ h => h) (Or.inl ⟨by rfl, ?_⟩) ?_ ?_
        rotate_left
        ·intro w'
         go_simp; with_reducible rfl
        rotate_left
        ·simp only [Act.put, List.setIfInBounds_toArray, List.set_cons_zero, List.set_cons_succ, i64_w, i32_w]
         rfl
        refine pure_ (i := 14) (N := some 107) (v := ?_) (a' := ?_) #[true, true, true, true, true, true, true, true, false, true, true, true, true, true, true, false, false, false, false, false, false, false, false] rfl rfl (any_of HT_.out (by kernel_rfl)) (fun _ _ _ h => h) (Or.inl ⟨by rfl, ?_⟩) ?_ ?_
        rotate_left
        ·intro w'
         go_simp; with_reducible rfl
        rotate_left
        ·simp only [Act.put, List.setIfInBounds_toArray, List.set_cons_zero, List.set_cons_succ, i64_w, i32_w]
         rfl
        refine pure_ (i := 15) (N := some 108) (v := ?_) (a' := ?_) #[true, true, true, true, true, true, true, true, false, true, true, true, true, true, true, true, false, false, false, false, false, false, false] rfl rfl (any_of HT_.out (by kernel_rfl)) (fun _ _ _ h => h) (Or.inl ⟨by rfl, ?_⟩) ?_ ?_
        rotate_left
        ·intro w'
         go_simp; with_reducible rfl
        rotate_left
        ·simp only [Act.put, List.setIfInBounds_toArray, List.set_cons_zero, List.set_cons_succ, i64_w, i32_w]
         rfl
        refine one_ (i := 8) (N := some 101) #[true, true, true, true, true, true, true, true, true, true, true, true, true, true, true, true, false, false, false, false, false, false, false] rfl rfl (one_of HT_.out (by kernel_rfl)) (by decide) (fun K hK => ?_)
        refine goes_ Try.func35 (by kernel_rfl) rfl #[.agg #[.int .i64 a0_0, .int .i64 a0_1, .int .i64 a0_2, .int .i64 a0_3, .int .i64 a0_4, .int .i64 a0_5, .int .i64 a0_6, .int .i64 a0_7]] (by rfl) rfl rfl aA ?_
        with_reducible refine (config_Floor.calls kj6 a0_0 a0_1 a0_2 a0_3 a0_4 a0_5 a0_6 a0_7 t297 _ A39.out).mono ?_
        rintro e w50 ⟨rfl, hb⟩
        refine ⟨_, rfl, ?_⟩; have n0_ := Aside0.mk (blk_below (g := gb280) kA hb); have n1_ := Aside0.mk (blk_below (g := gb286) kA hb); have n2_ := Aside0.mk (blk_below (g := gb287) kA hb); have n3_ := Aside0.mk (below_step bA hb); clear BK280 BK286 BK287 HB; have BK280 := n0_; have BK286 := n1_; have BK287 := n2_; have HB := n3_; clear n0_ n1_ n2_ n3_; (try clear hb)
        refine hK.out _ _ ⟨(blk_cell BK280.out 0).trans rfl, (blk_cell BK280.out 1).trans rfl, (blk_cell BK280.out 2).trans rfl, (blk_cell BK280.out 3).trans rfl, (blk_cell BK280.out 4).trans rfl, (blk_cell BK280.out 5).trans rfl, (blk_cell BK280.out 6).trans rfl, (blk_cell BK280.out 7).trans rfl⟩ (fun hHeld => ?_)
        clear hK K
        refine norm_ (a' := ?_) ?_ ?_
        rotate_left
        ·show Act.put _ (some 101) _ = _
         simp only [Act.put, List.setIfInBounds_toArray, List.set_cons_zero, List.set_cons_succ, i64_w, i32_w]
         rfl
        refine pure_ (i := 16) (N := some 109) (v := ?_) (a' := ?_) #[true, true, true, true, true, true, true, true, true, true, true, true, true, true, true, true, true, false, false, false, false, false, false] rfl rfl (any_of HT_.out (by kernel_rfl)) (fun _ _ _ h => h) (Or.inl ⟨by rfl, ?_⟩) ?_ ?_
        rotate_left
        ·intro w'
         go_simp; with_reducible rfl
        rotate_left
        ·simp only [Act.put, List.setIfInBounds_toArray, List.set_cons_zero, List.set_cons_succ, i64_w, i32_w]
         rfl
        refine pure_ (i := 17) (N := some 110) (v := ?_) (a' := ?_) #[true, true, true, true, true, true, true, true, true, true, true, true, true, true, true, true, true, true, false, false, false, false, false] rfl rfl (any_of HT_.out (by kernel_rfl)) (fun _ _ _ h => h) (Or.inl ⟨by rfl, ?_⟩) ?_ ?_
        rotate_left
        ·intro w'
         go_simp; with_reducible rfl
        rotate_left
        ·simp only [Act.put, List.setIfInBounds_toArray, List.set_cons_zero, List.set_cons_succ, i64_w, i32_w]
         rfl
        refine pure_ (i := 18) (N := some 111) (v := ?_) (a' := ?_) #[true, true, true, true, true, true, true, true, true, true, true, true, true, true, true, true, true, true, true, false, false, false, false] rfl rfl (any_of HT_.out (by kernel_rfl)) (fun _ _ _ h => h) (Or.inl ⟨by rfl, ?_⟩) ?_ ?_
        rotate_left
        ·intro w'
         go_simp; with_reducible rfl
        rotate_left
        ·simp only [Act.put, List.setIfInBounds_toArray, List.set_cons_zero, List.set_cons_succ, i64_w, i32_w]
         rfl
        refine pure_ (i := 19) (N := some 112) (v := undef) (a' := ?_) #[true, true, true, true, true, true, true, true, true, true, true, true, true, true, true, true, true, true, true, true, false, false, false] rfl rfl (any_of HT_.out (by kernel_rfl)) (fun _ _ _ h => h) (Or.inr ⟨by rfl, rfl⟩) ?_ ?_
        rotate_left
        ·simp only [Act.put, List.setIfInBounds_toArray, List.set_cons_zero, List.set_cons_succ, i64_w, i32_w]
         rfl
        refine pure_ (i := 20) (N := some 113) (v := undef) (a' := ?_) #[true, true, true, true, true, true, true, true, true, true, true, true, true, true, true, true, true, true, true, true, true, false, false] rfl rfl (any_of HT_.out (by kernel_rfl)) (fun _ _ _ h => h) (Or.inr ⟨by rfl, rfl⟩) ?_ ?_
        rotate_left
        ·simp only [Act.put, List.setIfInBounds_toArray, List.set_cons_zero, List.set_cons_succ, i64_w, i32_w]
         rfl
        refine pure_ (i := 21) (N := some 114) (v := undef) (a' := ?_) #[true, true, true, true, true, true, true, true, true, true, true, true, true, true, true, true, true, true, true, true, true, true, false] rfl rfl (any_of HT_.out (by kernel_rfl)) (fun _ _ _ h => h) (Or.inr ⟨by rfl, rfl⟩) ?_ ?_
        rotate_left
        ·simp only [Act.put, List.setIfInBounds_toArray, List.set_cons_zero, List.set_cons_succ, i64_w, i32_w]
         rfl
        refine pure_ (i := 22) (N := some 115) (v := ?_) (a' := ?_) #[true, true, true, true, true, true, true, true, true, true, true, true, true, true, true, true, true, true, true, true, true, true, true] rfl rfl (any_of HT_.out (by kernel_rfl)) (fun _ _ _ h => h) (Or.inl ⟨by rfl, ?_⟩) ?_ ?_
        rotate_left
        ·intro w'
         go_simp; with_reducible rfl
        rotate_left
        ·simp only [Act.put, List.setIfInBounds_toArray, List.set_cons_zero, List.set_cons_succ, i64_w, i32_w]
         rfl
        refine done_ (done_of HT_.out (by kernel_rfl)) ?_
        try go_wp2
        go_meet
        case rel => exact ⟨_, (true), (by first | rfl | (simp; done) | (simp [*]; done)), H', ⟨by have := HJ6.out; first | omega | exact Nat.le_refl _⟩, ⟨by exact kA⟩, ⟨by exact kA⟩, ⟨by exact kA⟩, ⟨bA⟩⟩
     case rest =>
      clear HC32
      try clear p2
      try clear c3
      try clear c4
      try clear p6
      try clear c33
      try clear c35
      try clear c35b0
      try clear c40
      try clear c40b0
      try clear c40b1
      obtain ⟨kq, x115_31, rfl, HA, HJ31, BK280, BK286, BK287, HB⟩ := hcut
      cases kq with
      | zero => exact absurd HA.out (by simp [backfilllaw11_ConfigLaws.j1])
      | succ kj31 =>
       have H := HA.out
       clear HA
       simp only [backfilllaw11_ConfigLaws.j1] at H
       by_cases c51 : x115_31 = true
       ·subst c51
        have H1 : (none) = some r := by rw [if_pos rfl] at H; exact H
        clear H
        have H := H1
        clear H1
        exact absurd H (by simp)
       ·replace c51 := Bool.eq_false_iff.mpr c51
        subst c51
        have H1 : ((config_Bound.f kj31 a0_0 a0_1 a0_2 a0_3 a0_4 a0_5 a0_6 a0_7).bind fun t299 => ((backfillref01_Times.f t282 t283 1000).bind fun bt302 => ((backfillref01_Times.f t284 t285 (IntKind.u64.wrap (wrap64 ((wrap64 (a0_3 * t299)) + (wrap64 (a0_4 + (wrap64 (a0_5 * a0_0)))))))).bind fun bt306 => (if t281 = true then (if bt302.2.2 = true then (if bt306.2.2 = true then ((backfillref01_Cmp.f kj31 bt302.1 bt302.2.1 bt306.1 bt306.2.1).bind fun t310 => (if t310 ≤ 0 then (if ((t282 == 0 && (t283 == 0)) == (a0_4 == 0)) = true then (some (!(t284 == 0) || (!(t285 == 0)))) else (none)) else (none))) else (none)) else (none)) else (none))))) = some r := by rw [if_neg (show ¬ (false = true) by decide)] at H; exact H
        clear H
        have H := H1
        clear H1; replace H := Option.bind_eq_some_iff.mp H; obtain ⟨t299, A520, H⟩ := H; replace H : ((backfillref01_Times.f t282 t283 1000).bind fun bt302 => ((backfillref01_Times.f t284 t285 (IntKind.u64.wrap (wrap64 ((wrap64 (a0_3 * t299)) + (wrap64 (a0_4 + (wrap64 (a0_5 * a0_0)))))))).bind fun bt306 => (if t281 = true then (if bt302.2.2 = true then (if bt306.2.2 = true then ((backfillref01_Cmp.f kj31 bt302.1 bt302.2.1 bt306.1 bt306.2.1).bind fun t310 => (if t310 ≤ 0 then (if ((t282 == 0 && (t283 == 0)) == (a0_4 == 0)) = true then (some (!(t284 == 0) || (!(t285 == 0)))) else (none)) else (none))) else (none)) else (none)) else (none)))) = some r := H; have A52 := Aside0.mk A520; clear A520; replace H := Option.bind_eq_some_iff.mp H; obtain ⟨⟨t302, t303, t304⟩, A530, H⟩ := H; replace H : ((backfillref01_Times.f t284 t285 (IntKind.u64.wrap (wrap64 ((wrap64 (a0_3 * t299)) + (wrap64 (a0_4 + (wrap64 (a0_5 * a0_0)))))))).bind fun bt306 => (if t281 = true then (if t304 = true then (if bt306.2.2 = true then ((backfillref01_Cmp.f kj31 t302 t303 bt306.1 bt306.2.1).bind fun t310 => (if t310 ≤ 0 then (if ((t282 == 0 && (t283 == 0)) == (a0_4 == 0)) = true then (some (!(t284 == 0) || (!(t285 == 0)))) else (none)) else (none))) else (none)) else (none)) else (none))) = some r := H; have A53 := Aside0.mk A530; clear A530; replace H := Option.bind_eq_some_iff.mp H; obtain ⟨⟨t306, t307, t308⟩, A540, H⟩ := H; replace H : (if t281 = true then (if t304 = true then (if t308 = true then ((backfillref01_Cmp.f kj31 t302 t303 t306 t307).bind fun t310 => (if t310 ≤ 0 then (if ((t282 == 0 && (t283 == 0)) == (a0_4 == 0)) = true then (some (!(t284 == 0) || (!(t285 == 0)))) else (none)) else (none))) else (none)) else (none)) else (none)) = some r := H; have A54 := Aside0.mk A540; clear A540
        by_cases c55 : t281 = true
        ·subst c55
         have H1 : (if t304 = true then (if t308 = true then ((backfillref01_Cmp.f kj31 t302 t303 t306 t307).bind fun t310 => (if t310 ≤ 0 then (if ((t282 == 0 && (t283 == 0)) == (a0_4 == 0)) = true then (some (!(t284 == 0) || (!(t285 == 0)))) else (none)) else (none))) else (none)) else (none)) = some r := by rw [if_pos rfl] at H; exact H
         clear H
         have H := H1
         clear H1
         by_cases c56 : t304 = true
         ·subst c56
          have H1 : (if t308 = true then ((backfillref01_Cmp.f kj31 t302 t303 t306 t307).bind fun t310 => (if t310 ≤ 0 then (if ((t282 == 0 && (t283 == 0)) == (a0_4 == 0)) = true then (some (!(t284 == 0) || (!(t285 == 0)))) else (none)) else (none))) else (none)) = some r := by rw [if_pos rfl] at H; exact H
          clear H
          have H := H1
          clear H1
          by_cases c57 : t308 = true
          ·subst c57
           have H1 : ((backfillref01_Cmp.f kj31 t302 t303 t306 t307).bind fun t310 => (if t310 ≤ 0 then (if ((t282 == 0 && (t283 == 0)) == (a0_4 == 0)) = true then (some (!(t284 == 0) || (!(t285 == 0)))) else (none)) else (none))) = some r := by rw [if_pos rfl] at H; exact H
           clear H
           have H := H1
           clear H1; replace H := Option.bind_eq_some_iff.mp H; obtain ⟨t310, A580, H⟩ := H; replace H : (if t310 ≤ 0 then (if ((t282 == 0 && (t283 == 0)) == (a0_4 == 0)) = true then (some (!(t284 == 0) || (!(t285 == 0)))) else (none)) else (none)) = some r := H; have A58 := Aside0.mk A580; clear A580
           by_cases c59 : t310 ≤ 0
           ·rw [if_pos c59] at H
            have c59b0 : decide (t310 ≤ 0) = true := decide_eq_true c59
            clear c59
            by_cases c60 : ((t282 == 0 && (t283 == 0)) == (a0_4 == 0)) = true
            ·rw [if_pos c60] at H
             have c60b0 : ((t282 == 0 && (t283 == 0)) == (a0_4 == 0)) = true := c60
             (try (have c60b1 : decide ((t282 == 0 && (t283 == 0)) = (a0_4 == 0)) = true := by simpa using c60))
             (try (have c60b2 : ((t282 == 0 && (t283 == 0)) == (a0_4 == 0)) = true := by simpa using c60))
             clear c60
             obtain rfl := Option.some.inj H
             try go_wp2
             have n0_ := Aside0.mk (blk_drew BK280.out); have n1_ := Aside0.mk (blk_drew BK286.out); have n2_ := Aside0.mk (blk_drew BK287.out); have n3_ := Aside0.mk (below_drew1 HB.out); clear BK280 BK286 BK287 HB; have BK280 := n0_; have BK286 := n1_; have BK287 := n2_; have HB := n3_; clear n0_ n1_ n2_ n3_
             refine start_ (n := 9) (S := fun w' => w'.cell? ⟨gb280, 0, none⟩ = some (.int .i64 a0_0) ∧ w'.cell? ⟨gb280, 1, none⟩ = some (.int .i64 a0_1) ∧ w'.cell? ⟨gb280, 2, none⟩ = some (.int .i64 a0_2) ∧ w'.cell? ⟨gb280, 3, none⟩ = some (.int .i64 a0_3) ∧ w'.cell? ⟨gb280, 4, none⟩ = some (.int .i64 a0_4) ∧ w'.cell? ⟨gb280, 5, none⟩ = some (.int .i64 a0_5) ∧ w'.cell? ⟨gb280, 6, none⟩ = some (.int .i64 a0_6) ∧ w'.cell? ⟨gb280, 7, none⟩ = some (.int .i64 a0_7)) (ds := []) #[false, false, false, false, false, false, false, false, false] (by kernel_rfl) rfl rfl ⟨(blk_cell BK280.out 0).trans rfl, (blk_cell BK280.out 1).trans rfl, (blk_cell BK280.out 2).trans rfl, (blk_cell BK280.out 3).trans rfl, (blk_cell BK280.out 4).trans rfl, (blk_cell BK280.out 5).trans rfl, (blk_cell BK280.out 6).trans rfl, (blk_cell BK280.out 7).trans rfl⟩ (fun hHeld => ?_); refine with_tabW backfilllaw11_ConfigLaws.tab11 backfilllaw11_ConfigLaws.bits11 (fun HT_ HW_ => ?_)
             generalize wc.drew = w61 at BK280 BK286 BK287 HB hHeld ⊢
             refine pure_ (i := 0) (N := some 116) (v := ?_) (a' := ?_) #[true, false, false, false, false, false, false, false, false] rfl rfl (any_of HT_.out (by kernel_rfl)) (fun _ _ _ h => h) (Or.inl ⟨by rfl, ?_⟩) ?_ ?_
             rotate_left
             ·intro w'
              go_simp; with_reducible rfl
             rotate_left
             ·simp only [Act.put, List.setIfInBounds_toArray, List.set_cons_zero, List.set_cons_succ, i64_w, i32_w]
              rfl
             refine pure_ (i := 5) (N := some 121) (v := ?_) (a' := ?_) #[true, false, false, false, false, true, false, false, false] rfl rfl (any_of HT_.out (by kernel_rfl)) (fun _ _ _ h => h) (Or.inl ⟨by rfl, ?_⟩) ?_ ?_
             rotate_left
             ·intro w'
              go_simp; with_reducible rfl
             rotate_left
             ·simp only [Act.put, List.setIfInBounds_toArray, List.set_cons_zero, List.set_cons_succ, i64_w, i32_w]
              rfl
             refine take_ (i := 1) (N := some 117) (v := ?_) (a' := ?_) #[true, true, false, false, false, true, false, false, false] rfl rfl (take_ofW HT_.out HW_.out (by kernel_rfl)) (fun _ _ _ h => h) (Or.inl ⟨by rfl, ?_⟩) hHeld ?_ ?_
             rotate_left
             ·rintro w' ⟨s0, s1, s2, s3, s4, s5, s6, s7⟩
              go_simp; with_reducible rfl
             rotate_left
             ·simp only [Act.put, List.setIfInBounds_toArray, List.set_cons_zero, List.set_cons_succ, i64_w, i32_w]
              rfl
             refine take_ (i := 2) (N := some 118) (v := ?_) (a' := ?_) #[true, true, true, false, false, true, false, false, false] rfl rfl (take_ofW HT_.out HW_.out (by kernel_rfl)) (fun _ _ _ h => h) (Or.inl ⟨by rfl, ?_⟩) hHeld ?_ ?_
             rotate_left
             ·rintro w' ⟨s0, s1, s2, s3, s4, s5, s6, s7⟩
              go_simp; with_reducible rfl
             rotate_left
             ·simp only [Act.put, List.setIfInBounds_toArray, List.set_cons_zero, List.set_cons_succ, i64_w, i32_w]
              rfl
             refine one_ (i := 3) (N := some 119) #[true, true, true, true, false, true, false, false, false] rfl rfl (one_of HT_.out (by kernel_rfl)) (by decide) (fun K hK => ?_)
             refine goes_ Try.func31 (by kernel_rfl) rfl #[.agg #[.int .i64 a0_0, .int .i64 a0_1, .int .i64 a0_2, .int .i64 a0_3, .int .i64 a0_4, .int .i64 a0_5, .int .i64 a0_6, .int .i64 a0_7]] (by rfl) rfl rfl aA ?_
             with_reducible refine (config_Bound.calls kj31 a0_0 a0_1 a0_2 a0_3 a0_4 a0_5 a0_6 a0_7 t299 _ A52.out).mono ?_
             rintro e w62 ⟨rfl, hb⟩
             refine ⟨_, rfl, ?_⟩; have n0_ := Aside0.mk (blk_below (g := gb280) kA hb); have n1_ := Aside0.mk (blk_below (g := gb286) kA hb); have n2_ := Aside0.mk (blk_below (g := gb287) kA hb); have n3_ := Aside0.mk (below_step bA hb); clear BK280 BK286 BK287 HB; have BK280 := n0_; have BK286 := n1_; have BK287 := n2_; have HB := n3_; clear n0_ n1_ n2_ n3_; (try clear hb)
             refine hK.out _ _ ⟨(blk_cell BK280.out 0).trans rfl, (blk_cell BK280.out 1).trans rfl, (blk_cell BK280.out 2).trans rfl, (blk_cell BK280.out 3).trans rfl, (blk_cell BK280.out 4).trans rfl, (blk_cell BK280.out 5).trans rfl, (blk_cell BK280.out 6).trans rfl, (blk_cell BK280.out 7).trans rfl⟩ (fun hHeld => ?_)
             clear hK K
             refine norm_ (a' := ?_) ?_ ?_
             rotate_left
             ·show Act.put _ (some 119) _ = _
              simp only [Act.put, List.setIfInBounds_toArray, List.set_cons_zero, List.set_cons_succ, i64_w, i32_w]
              rfl
             refine pure_ (i := 4) (N := some 120) (v := ?_) (a' := ?_) #[true, true, true, true, true, true, false, false, false] rfl rfl (any_of HT_.out (by kernel_rfl)) (fun _ _ _ h => h) (Or.inl ⟨by rfl, ?_⟩) ?_ ?_
             rotate_left
             ·intro w'
              go_simp; with_reducible rfl
             rotate_left
             ·simp only [Act.put, List.setIfInBounds_toArray, List.set_cons_zero, List.set_cons_succ, i64_w, i32_w]
              rfl
             refine pure_ (i := 6) (N := some 122) (v := ?_) (a' := ?_) #[true, true, true, true, true, true, true, false, false] rfl rfl (any_of HT_.out (by kernel_rfl)) (fun _ _ _ h => h) (Or.inl ⟨by rfl, ?_⟩) ?_ ?_
             rotate_left
             ·intro w'
              go_simp; with_reducible rfl
             rotate_left
             ·simp only [Act.put, List.setIfInBounds_toArray, List.set_cons_zero, List.set_cons_succ, i64_w, i32_w]
              rfl
             refine pure_ (i := 7) (N := some 123) (v := ?_) (a' := ?_) #[true, true, true, true, true, true, true, true, false] rfl rfl (any_of HT_.out (by kernel_rfl)) (fun _ _ _ h => h) (Or.inl ⟨by rfl, ?_⟩) ?_ ?_
             rotate_left
             ·intro w'
              go_simp; with_reducible rfl
             rotate_left
             ·simp only [Act.put, List.setIfInBounds_toArray, List.set_cons_zero, List.set_cons_succ, i64_w, i32_w]
              rfl
             refine pure_ (i := 8) (N := some 8) (v := ?_) (a' := ?_) #[true, true, true, true, true, true, true, true, true] rfl rfl (any_of HT_.out (by kernel_rfl)) (fun _ _ _ h => h) (Or.inl ⟨by rfl, ?_⟩) ?_ ?_
             rotate_left
             ·intro w'
              go_simp; with_reducible rfl
             rotate_left
             ·simp only [Act.put, List.setIfInBounds_toArray, List.set_cons_zero, List.set_cons_succ, i64_w, i32_w]
              rfl
             refine done_ (done_of HT_.out (by kernel_rfl)) ?_
             have hnb63 := NB286_280.out
             have hnc63 := NB280_286.out
             have hnb64 := NB286_287.out
             have hnc64 := NB287_286.out
             have hcz65_0 : w62.cell? ⟨gb286, 0, none⟩ = some (.int .u64 t282) := (blk_cell BK286.out 0).trans rfl
             have hcz65_1 : w62.cell? ⟨gb286, 1, none⟩ = some (.int .u64 t283) := (blk_cell BK286.out 1).trans rfl
             have hfz65_0 := blk_frozen BK286.out 0
             have hfz65_1 := blk_frozen BK286.out 1
             try go_wp2_with (first | ((with_reducible refine gate_dst (N := 9) rfl ?_); refine bxA 9 #[.int .u64 0, .int .u64 0] 28 ?_; intro gb300 hg w66 hbox hb; have n0_ := Aside0.mk (blk_below (g := gb280) kA hb); have n1_ := Aside0.mk (blk_below (g := gb286) kA hb); have n2_ := Aside0.mk (blk_below (g := gb287) kA hb); have n3_ := Aside0.mk (below_step bA hb); have n4_ := Aside0.mk (hbox); have n5_ := Aside0.mk (gwA hg bA); have n6_ := Aside0.mk (gwA hg bA); have n7_ := Aside0.mk (neA (g := gb280) hg kA); have n8_ := Aside0.mk (neB (g := gb280) hg kA); have n9_ := Aside0.mk (neA (g := gb286) hg kA); have n10_ := Aside0.mk (neB (g := gb286) hg kA); have n11_ := Aside0.mk (neA (g := gb287) hg kA); have n12_ := Aside0.mk (neB (g := gb287) hg kA); clear BK280 BK286 BK287 HB; have BK280 := n0_; have BK286 := n1_; have BK287 := n2_; have HB := n3_; have BK300 := n4_; have GW300 := n5_; have GE300 := n6_; have NB280_300 := n7_; have NB300_280 := n8_; have NB286_300 := n9_; have NB300_286 := n10_; have NB287_300 := n11_; have NB300_287 := n12_; clear n0_ n1_ n2_ n3_ n4_ n5_ n6_ n7_ n8_ n9_ n10_ n11_ n12_ hb hbox hg; have hnb67 := NB300_280.out; have hnc67 := NB280_300.out; have hnb68 := NB300_286.out; have hnc68 := NB286_300.out; have hnb69 := NB300_287.out; have hnc69 := NB287_300.out; have hcz70_0 : w66.cell? ⟨gb300, 0, none⟩ = some (.int .u64 0) := (blk_cell BK300.out 0).trans rfl; have hcz70_1 : w66.cell? ⟨gb300, 1, none⟩ = some (.int .u64 0) := (blk_cell BK300.out 1).trans rfl; have hfz70_0 := blk_frozen BK300.out 0; have hfz70_1 := blk_frozen BK300.out 1; have hnb71 := NB287_280.out; have hnc71 := NB280_287.out; have hcz72_0 : w66.cell? ⟨gb287, 0, none⟩ = some (.int .u64 t284) := (blk_cell BK287.out 0).trans rfl; have hcz72_1 : w66.cell? ⟨gb287, 1, none⟩ = some (.int .u64 t285) := (blk_cell BK287.out 1).trans rfl; have hfz72_0 := blk_frozen BK287.out 0; have hfz72_1 := blk_frozen BK287.out 1) | ((with_reducible refine gate_dst (N := 10) rfl ?_); refine bxA 10 #[.int .u64 0, .int .u64 0] 28 ?_; intro gb301 hg w73 hbox hb; have n0_ := Aside0.mk (blk_below (g := gb280) (o := .cells #[.int .i64 a0_0, .int .i64 a0_1, .int .i64 a0_2, .int .i64 a0_3, .int .i64 a0_4, .int .i64 a0_5, .int .i64 a0_6, .int .i64 a0_7] 39 (0, 0)) (by (with_reducible repeat (first | refine blk_drewN ?_ _ | refine blk_drew ?_ | refine blk_alloc ?_ _)); refine blk_far ?_ NB280_300.out _; (with_reducible repeat (first | refine blk_drewN ?_ _ | refine blk_drew ?_ | refine blk_alloc ?_ _)); refine blk_far ?_ NB280_300.out _; exact kA) hb); have n1_ := Aside0.mk (blk_below (g := gb286) (o := .cells #[.int .u64 t282, .int .u64 t283] 25 (0, 0)) (by (with_reducible repeat (first | refine blk_drewN ?_ _ | refine blk_drew ?_ | refine blk_alloc ?_ _)); refine blk_far ?_ NB286_300.out _; (with_reducible repeat (first | refine blk_drewN ?_ _ | refine blk_drew ?_ | refine blk_alloc ?_ _)); refine blk_far ?_ NB286_300.out _; exact kA) hb); have n2_ := Aside0.mk (blk_below (g := gb287) (o := .cells #[.int .u64 t284, .int .u64 t285] 25 (0, 0)) (by (with_reducible repeat (first | refine blk_drewN ?_ _ | refine blk_drew ?_ | refine blk_alloc ?_ _)); refine blk_far ?_ NB287_300.out _; (with_reducible repeat (first | refine blk_drewN ?_ _ | refine blk_drew ?_ | refine blk_alloc ?_ _)); refine blk_far ?_ NB287_300.out _; exact kA) hb); have n3_ := Aside0.mk (blk_below (g := gb300) (o := .cells #[.int .u64 t282, .int .u64 t283] 28 (0, 0)) (by (with_reducible repeat (first | refine blk_drewN ?_ _ | refine blk_drew ?_ | refine blk_alloc ?_ _)); refine blk_put (cs := #[.int .u64 t282, .int .u64 0]) ?_ 1 _ rfl; (with_reducible repeat (first | refine blk_drewN ?_ _ | refine blk_drew ?_ | refine blk_alloc ?_ _)); refine blk_put (cs := #[.int .u64 0, .int .u64 0]) ?_ 0 _ rfl; exact kA) hb); have n4_ := Aside0.mk (below_step bA hb); have n5_ := Aside0.mk (hbox); have n6_ := Aside0.mk (gwA hg bA); have n7_ := Aside0.mk (gwA hg bA); have n8_ := Aside0.mk ((by rw [hg]; exact Nat.ne_of_lt (blk_lt (g := gb280) (o := .cells #[.int .i64 a0_0, .int .i64 a0_1, .int .i64 a0_2, .int .i64 a0_3, .int .i64 a0_4, .int .i64 a0_5, .int .i64 a0_6, .int .i64 a0_7] 39 (0, 0)) (by (with_reducible repeat (first | refine blk_drewN ?_ _ | refine blk_drew ?_ | refine blk_alloc ?_ _)); refine blk_far ?_ NB280_300.out _; (with_reducible repeat (first | refine blk_drewN ?_ _ | refine blk_drew ?_ | refine blk_alloc ?_ _)); refine blk_far ?_ NB280_300.out _; exact kA)) : gb280 ≠ gb301)); have n9_ := Aside0.mk ((by rw [hg]; exact Nat.ne_of_gt (blk_lt (g := gb280) (o := .cells #[.int .i64 a0_0, .int .i64 a0_1, .int .i64 a0_2, .int .i64 a0_3, .int .i64 a0_4, .int .i64 a0_5, .int .i64 a0_6, .int .i64 a0_7] 39 (0, 0)) (by (with_reducible repeat (first | refine blk_drewN ?_ _ | refine blk_drew ?_ | refine blk_alloc ?_ _)); refine blk_far ?_ NB280_300.out _; (with_reducible repeat (first | refine blk_drewN ?_ _ | refine blk_drew ?_ | refine blk_alloc ?_ _)); refine blk_far ?_ NB280_300.out _; exact kA)) : gb301 ≠ gb280)); have n10_ := Aside0.mk ((by rw [hg]; exact Nat.ne_of_lt (blk_lt (g := gb286) (o := .cells #[.int .u64 t282, .int .u64 t283] 25 (0, 0)) (by (with_reducible repeat (first | refine blk_drewN ?_ _ | refine blk_drew ?_ | refine blk_alloc ?_ _)); refine blk_far ?_ NB286_300.out _; (with_reducible repeat (first | refine blk_drewN ?_ _ | refine blk_drew ?_ | refine blk_alloc ?_ _)); refine blk_far ?_ NB286_300.out _; exact kA)) : gb286 ≠ gb301)); have n11_ := Aside0.mk ((by rw [hg]; exact Nat.ne_of_gt (blk_lt (g := gb286) (o := .cells #[.int .u64 t282, .int .u64 t283] 25 (0, 0)) (by (with_reducible repeat (first | refine blk_drewN ?_ _ | refine blk_drew ?_ | refine blk_alloc ?_ _)); refine blk_far ?_ NB286_300.out _; (with_reducible repeat (first | refine blk_drewN ?_ _ | refine blk_drew ?_ | refine blk_alloc ?_ _)); refine blk_far ?_ NB286_300.out _; exact kA)) : gb301 ≠ gb286)); have n12_ := Aside0.mk ((by rw [hg]; exact Nat.ne_of_lt (blk_lt (g := gb287) (o := .cells #[.int .u64 t284, .int .u64 t285] 25 (0, 0)) (by (with_reducible repeat (first | refine blk_drewN ?_ _ | refine blk_drew ?_ | refine blk_alloc ?_ _)); refine blk_far ?_ NB287_300.out _; (with_reducible repeat (first | refine blk_drewN ?_ _ | refine blk_drew ?_ | refine blk_alloc ?_ _)); refine blk_far ?_ NB287_300.out _; exact kA)) : gb287 ≠ gb301)); have n13_ := Aside0.mk ((by rw [hg]; exact Nat.ne_of_gt (blk_lt (g := gb287) (o := .cells #[.int .u64 t284, .int .u64 t285] 25 (0, 0)) (by (with_reducible repeat (first | refine blk_drewN ?_ _ | refine blk_drew ?_ | refine blk_alloc ?_ _)); refine blk_far ?_ NB287_300.out _; (with_reducible repeat (first | refine blk_drewN ?_ _ | refine blk_drew ?_ | refine blk_alloc ?_ _)); refine blk_far ?_ NB287_300.out _; exact kA)) : gb301 ≠ gb287)); have n14_ := Aside0.mk ((by rw [hg]; exact Nat.ne_of_lt (blk_lt (g := gb300) (o := .cells #[.int .u64 t282, .int .u64 t283] 28 (0, 0)) (by (with_reducible repeat (first | refine blk_drewN ?_ _ | refine blk_drew ?_ | refine blk_alloc ?_ _)); refine blk_put (cs := #[.int .u64 t282, .int .u64 0]) ?_ 1 _ rfl; (with_reducible repeat (first | refine blk_drewN ?_ _ | refine blk_drew ?_ | refine blk_alloc ?_ _)); refine blk_put (cs := #[.int .u64 0, .int .u64 0]) ?_ 0 _ rfl; exact kA)) : gb300 ≠ gb301)); have n15_ := Aside0.mk ((by rw [hg]; exact Nat.ne_of_gt (blk_lt (g := gb300) (o := .cells #[.int .u64 t282, .int .u64 t283] 28 (0, 0)) (by (with_reducible repeat (first | refine blk_drewN ?_ _ | refine blk_drew ?_ | refine blk_alloc ?_ _)); refine blk_put (cs := #[.int .u64 t282, .int .u64 0]) ?_ 1 _ rfl; (with_reducible repeat (first | refine blk_drewN ?_ _ | refine blk_drew ?_ | refine blk_alloc ?_ _)); refine blk_put (cs := #[.int .u64 0, .int .u64 0]) ?_ 0 _ rfl; exact kA)) : gb301 ≠ gb300)); clear BK280 BK286 BK287 BK300 HB; have BK280 := n0_; have BK286 := n1_; have BK287 := n2_; have BK300 := n3_; have HB := n4_; have BK301 := n5_; have GW301 := n6_; have GE301 := n7_; have NB280_301 := n8_; have NB301_280 := n9_; have NB286_301 := n10_; have NB301_286 := n11_; have NB287_301 := n12_; have NB301_287 := n13_; have NB300_301 := n14_; have NB301_300 := n15_; clear n0_ n1_ n2_ n3_ n4_ n5_ n6_ n7_ n8_ n9_ n10_ n11_ n12_ n13_ n14_ n15_ hb hbox hg; have hnb74 := NB301_280.out; have hnc74 := NB280_301.out; have hnb75 := NB301_286.out; have hnc75 := NB286_301.out; have hnb76 := NB301_287.out; have hnc76 := NB287_301.out; have hnb77 := NB301_300.out; have hnc77 := NB300_301.out; have hcz78_0 : w73.cell? ⟨gb301, 0, none⟩ = some (.int .u64 0) := (blk_cell BK301.out 0).trans rfl; have hcz78_1 : w73.cell? ⟨gb301, 1, none⟩ = some (.int .u64 0) := (blk_cell BK301.out 1).trans rfl; have hfz78_0 := blk_frozen BK301.out 0; have hfz78_1 := blk_frozen BK301.out 1; have hcz79_0 : w73.cell? ⟨gb300, 0, none⟩ = some (.int .u64 t282) := (blk_cell BK300.out 0).trans rfl; have hcz79_1 : w73.cell? ⟨gb300, 1, none⟩ = some (.int .u64 t283) := (blk_cell BK300.out 1).trans rfl; have hfz79_0 := blk_frozen BK300.out 0; have hfz79_1 := blk_frozen BK300.out 1) | ((with_reducible refine gate_callee (f := 38) rfl ?_); refine goesL_ (some 136) rfl rfl Try.func38 (by kernel_rfl) rfl #[.agg #[.int .u64 t282, .int .u64 t283], .int .u64 1000] rfl aA ?_; (with_reducible refine (backfillref01_Times.calls t282 t283 1000 t302 t303 true _ A53.out).mono ?_); rintro e w80 ⟨rfl, hb⟩; refine ⟨_, rfl, ?_⟩; have n0_ := Aside0.mk (blk_below (g := gb280) (o := .cells #[.int .i64 a0_0, .int .i64 a0_1, .int .i64 a0_2, .int .i64 a0_3, .int .i64 a0_4, .int .i64 a0_5, .int .i64 a0_6, .int .i64 a0_7] 39 (0, 0)) (by (with_reducible repeat (first | refine blk_drewN ?_ _ | refine blk_drew ?_ | refine blk_alloc ?_ _)); refine blk_far ?_ NB280_301.out _; (with_reducible repeat (first | refine blk_drewN ?_ _ | refine blk_drew ?_ | refine blk_alloc ?_ _)); refine blk_far ?_ NB280_301.out _; exact kA) hb); have n1_ := Aside0.mk (blk_below (g := gb286) (o := .cells #[.int .u64 t282, .int .u64 t283] 25 (0, 0)) (by (with_reducible repeat (first | refine blk_drewN ?_ _ | refine blk_drew ?_ | refine blk_alloc ?_ _)); refine blk_far ?_ NB286_301.out _; (with_reducible repeat (first | refine blk_drewN ?_ _ | refine blk_drew ?_ | refine blk_alloc ?_ _)); refine blk_far ?_ NB286_301.out _; exact kA) hb); have n2_ := Aside0.mk (blk_below (g := gb287) (o := .cells #[.int .u64 t284, .int .u64 t285] 25 (0, 0)) (by (with_reducible repeat (first | refine blk_drewN ?_ _ | refine blk_drew ?_ | refine blk_alloc ?_ _)); refine blk_far ?_ NB287_301.out _; (with_reducible repeat (first | refine blk_drewN ?_ _ | refine blk_drew ?_ | refine blk_alloc ?_ _)); refine blk_far ?_ NB287_301.out _; exact kA) hb); have n3_ := Aside0.mk (blk_below (g := gb300) (o := .cells #[.int .u64 t282, .int .u64 t283] 28 (0, 0)) (by (with_reducible repeat (first | refine blk_drewN ?_ _ | refine blk_drew ?_ | refine blk_alloc ?_ _)); refine blk_far ?_ NB300_301.out _; (with_reducible repeat (first | refine blk_drewN ?_ _ | refine blk_drew ?_ | refine blk_alloc ?_ _)); refine blk_far ?_ NB300_301.out _; exact kA) hb); have n4_ := Aside0.mk (blk_below (g := gb301) (o := .cells #[.int .u64 t284, .int .u64 t285] 28 (0, 0)) (by (with_reducible repeat (first | refine blk_drewN ?_ _ | refine blk_drew ?_ | refine blk_alloc ?_ _)); refine blk_put (cs := #[.int .u64 t284, .int .u64 0]) ?_ 1 _ rfl; (with_reducible repeat (first | refine blk_drewN ?_ _ | refine blk_drew ?_ | refine blk_alloc ?_ _)); refine blk_put (cs := #[.int .u64 0, .int .u64 0]) ?_ 0 _ rfl; exact kA) hb); have n5_ := Aside0.mk (below_step bA hb); clear BK280 BK286 BK287 BK300 BK301 HB; have BK280 := n0_; have BK286 := n1_; have BK287 := n2_; have BK300 := n3_; have BK301 := n4_; have HB := n5_; clear n0_ n1_ n2_ n3_ n4_ n5_; (try clear hb)) | ((with_reducible refine gate_dst (N := 11) rfl ?_); refine bxA 11 #[.int .u64 0, .int .u64 0] 28 ?_; intro gb305 hg w81 hbox hb; have n0_ := Aside0.mk (blk_below (g := gb280) kA hb); have n1_ := Aside0.mk (blk_below (g := gb286) kA hb); have n2_ := Aside0.mk (blk_below (g := gb287) kA hb); have n3_ := Aside0.mk (blk_below (g := gb300) kA hb); have n4_ := Aside0.mk (blk_below (g := gb301) kA hb); have n5_ := Aside0.mk (below_step bA hb); have n6_ := Aside0.mk (hbox); have n7_ := Aside0.mk (gwA hg bA); have n8_ := Aside0.mk (gwA hg bA); have n9_ := Aside0.mk (neA (g := gb280) hg kA); have n10_ := Aside0.mk (neB (g := gb280) hg kA); have n11_ := Aside0.mk (neA (g := gb286) hg kA); have n12_ := Aside0.mk (neB (g := gb286) hg kA); have n13_ := Aside0.mk (neA (g := gb287) hg kA); have n14_ := Aside0.mk (neB (g := gb287) hg kA); have n15_ := Aside0.mk (neA (g := gb300) hg kA); have n16_ := Aside0.mk (neB (g := gb300) hg kA); have n17_ := Aside0.mk (neA (g := gb301) hg kA); have n18_ := Aside0.mk (neB (g := gb301) hg kA); clear BK280 BK286 BK287 BK300 BK301 HB; have BK280 := n0_; have BK286 := n1_; have BK287 := n2_; have BK300 := n3_; have BK301 := n4_; have HB := n5_; have BK305 := n6_; have GW305 := n7_; have GE305 := n8_; have NB280_305 := n9_; have NB305_280 := n10_; have NB286_305 := n11_; have NB305_286 := n12_; have NB287_305 := n13_; have NB305_287 := n14_; have NB300_305 := n15_; have NB305_300 := n16_; have NB301_305 := n17_; have NB305_301 := n18_; clear n0_ n1_ n2_ n3_ n4_ n5_ n6_ n7_ n8_ n9_ n10_ n11_ n12_ n13_ n14_ n15_ n16_ n17_ n18_ hb hbox hg; have hnb82 := NB305_280.out; have hnc82 := NB280_305.out; have hnb83 := NB305_286.out; have hnc83 := NB286_305.out; have hnb84 := NB305_287.out; have hnc84 := NB287_305.out; have hnb85 := NB305_300.out; have hnc85 := NB300_305.out; have hnb86 := NB305_301.out; have hnc86 := NB301_305.out; have hcz87_0 : w81.cell? ⟨gb305, 0, none⟩ = some (.int .u64 0) := (blk_cell BK305.out 0).trans rfl; have hcz87_1 : w81.cell? ⟨gb305, 1, none⟩ = some (.int .u64 0) := (blk_cell BK305.out 1).trans rfl; have hfz87_0 := blk_frozen BK305.out 0; have hfz87_1 := blk_frozen BK305.out 1; have hcz88_0 : w81.cell? ⟨gb301, 0, none⟩ = some (.int .u64 t284) := (blk_cell BK301.out 0).trans rfl; have hcz88_1 : w81.cell? ⟨gb301, 1, none⟩ = some (.int .u64 t285) := (blk_cell BK301.out 1).trans rfl; have hfz88_0 := blk_frozen BK301.out 0; have hfz88_1 := blk_frozen BK301.out 1) | ((with_reducible refine gate_callee (f := 38) rfl ?_); refine goesL_ (some 142) rfl rfl Try.func38 (by kernel_rfl) rfl #[.agg #[.int .u64 t284, .int .u64 t285], .int .u64 (IntKind.u64.wrap (wrap64 ((wrap64 (a0_3 * t299)) + (wrap64 (a0_4 + (wrap64 (a0_5 * a0_0)))))))] rfl aA ?_; (with_reducible refine (backfillref01_Times.calls t284 t285 (IntKind.u64.wrap (wrap64 ((wrap64 (a0_3 * t299)) + (wrap64 (a0_4 + (wrap64 (a0_5 * a0_0))))))) t306 t307 true _ A54.out).mono ?_); rintro e w89 ⟨rfl, hb⟩; refine ⟨_, rfl, ?_⟩; have n0_ := Aside0.mk (blk_below (g := gb280) (o := .cells #[.int .i64 a0_0, .int .i64 a0_1, .int .i64 a0_2, .int .i64 a0_3, .int .i64 a0_4, .int .i64 a0_5, .int .i64 a0_6, .int .i64 a0_7] 39 (0, 0)) (by (with_reducible repeat (first | refine blk_drewN ?_ _ | refine blk_drew ?_ | refine blk_alloc ?_ _)); refine blk_far ?_ NB280_305.out _; (with_reducible repeat (first | refine blk_drewN ?_ _ | refine blk_drew ?_ | refine blk_alloc ?_ _)); refine blk_far ?_ NB280_305.out _; exact kA) hb); have n1_ := Aside0.mk (blk_below (g := gb286) (o := .cells #[.int .u64 t282, .int .u64 t283] 25 (0, 0)) (by (with_reducible repeat (first | refine blk_drewN ?_ _ | refine blk_drew ?_ | refine blk_alloc ?_ _)); refine blk_far ?_ NB286_305.out _; (with_reducible repeat (first | refine blk_drewN ?_ _ | refine blk_drew ?_ | refine blk_alloc ?_ _)); refine blk_far ?_ NB286_305.out _; exact kA) hb); have n2_ := Aside0.mk (blk_below (g := gb287) (o := .cells #[.int .u64 t284, .int .u64 t285] 25 (0, 0)) (by (with_reducible repeat (first | refine blk_drewN ?_ _ | refine blk_drew ?_ | refine blk_alloc ?_ _)); refine blk_far ?_ NB287_305.out _; (with_reducible repeat (first | refine blk_drewN ?_ _ | refine blk_drew ?_ | refine blk_alloc ?_ _)); refine blk_far ?_ NB287_305.out _; exact kA) hb); have n3_ := Aside0.mk (blk_below (g := gb300) (o := .cells #[.int .u64 t282, .int .u64 t283] 28 (0, 0)) (by (with_reducible repeat (first | refine blk_drewN ?_ _ | refine blk_drew ?_ | refine blk_alloc ?_ _)); refine blk_far ?_ NB300_305.out _; (with_reducible repeat (first | refine blk_drewN ?_ _ | refine blk_drew ?_ | refine blk_alloc ?_ _)); refine blk_far ?_ NB300_305.out _; exact kA) hb); have n4_ := Aside0.mk (blk_below (g := gb301) (o := .cells #[.int .u64 t284, .int .u64 t285] 28 (0, 0)) (by (with_reducible repeat (first | refine blk_drewN ?_ _ | refine blk_drew ?_ | refine blk_alloc ?_ _)); refine blk_far ?_ NB301_305.out _; (with_reducible repeat (first | refine blk_drewN ?_ _ | refine blk_drew ?_ | refine blk_alloc ?_ _)); refine blk_far ?_ NB301_305.out _; exact kA) hb); have n5_ := Aside0.mk (blk_below (g := gb305) (o := .cells #[.int .u64 t302, .int .u64 t303] 28 (0, 0)) (by (with_reducible repeat (first | refine blk_drewN ?_ _ | refine blk_drew ?_ | refine blk_alloc ?_ _)); refine blk_put (cs := #[.int .u64 t302, .int .u64 0]) ?_ 1 _ rfl; (with_reducible repeat (first | refine blk_drewN ?_ _ | refine blk_drew ?_ | refine blk_alloc ?_ _)); refine blk_put (cs := #[.int .u64 0, .int .u64 0]) ?_ 0 _ rfl; exact kA) hb); have n6_ := Aside0.mk (below_step bA hb); clear BK280 BK286 BK287 BK300 BK301 BK305 HB; have BK280 := n0_; have BK286 := n1_; have BK287 := n2_; have BK300 := n3_; have BK301 := n4_; have BK305 := n5_; have HB := n6_; clear n0_ n1_ n2_ n3_ n4_ n5_ n6_; (try clear hb)) | ((with_reducible refine gate_dst (N := 13) rfl ?_); refine bxA 13 #[.int .u64 0, .int .u64 0] 28 ?_; intro gb309 hg w90 hbox hb; have n0_ := Aside0.mk (blk_below (g := gb280) kA hb); have n1_ := Aside0.mk (blk_below (g := gb286) kA hb); have n2_ := Aside0.mk (blk_below (g := gb287) kA hb); have n3_ := Aside0.mk (blk_below (g := gb300) kA hb); have n4_ := Aside0.mk (blk_below (g := gb301) kA hb); have n5_ := Aside0.mk (blk_below (g := gb305) kA hb); have n6_ := Aside0.mk (below_step bA hb); have n7_ := Aside0.mk (hbox); have n8_ := Aside0.mk (gwA hg bA); have n9_ := Aside0.mk (gwA hg bA); have n10_ := Aside0.mk (neA (g := gb280) hg kA); have n11_ := Aside0.mk (neB (g := gb280) hg kA); have n12_ := Aside0.mk (neA (g := gb286) hg kA); have n13_ := Aside0.mk (neB (g := gb286) hg kA); have n14_ := Aside0.mk (neA (g := gb287) hg kA); have n15_ := Aside0.mk (neB (g := gb287) hg kA); have n16_ := Aside0.mk (neA (g := gb300) hg kA); have n17_ := Aside0.mk (neB (g := gb300) hg kA); have n18_ := Aside0.mk (neA (g := gb301) hg kA); have n19_ := Aside0.mk (neB (g := gb301) hg kA); have n20_ := Aside0.mk (neA (g := gb305) hg kA); have n21_ := Aside0.mk (neB (g := gb305) hg kA); clear BK280 BK286 BK287 BK300 BK301 BK305 HB; have BK280 := n0_; have BK286 := n1_; have BK287 := n2_; have BK300 := n3_; have BK301 := n4_; have BK305 := n5_; have HB := n6_; have BK309 := n7_; have GW309 := n8_; have GE309 := n9_; have NB280_309 := n10_; have NB309_280 := n11_; have NB286_309 := n12_; have NB309_286 := n13_; have NB287_309 := n14_; have NB309_287 := n15_; have NB300_309 := n16_; have NB309_300 := n17_; have NB301_309 := n18_; have NB309_301 := n19_; have NB305_309 := n20_; have NB309_305 := n21_; clear n0_ n1_ n2_ n3_ n4_ n5_ n6_ n7_ n8_ n9_ n10_ n11_ n12_ n13_ n14_ n15_ n16_ n17_ n18_ n19_ n20_ n21_ hb hbox hg; have hnb91 := NB309_280.out; have hnc91 := NB280_309.out; have hnb92 := NB309_286.out; have hnc92 := NB286_309.out; have hnb93 := NB309_287.out; have hnc93 := NB287_309.out; have hnb94 := NB309_300.out; have hnc94 := NB300_309.out; have hnb95 := NB309_301.out; have hnc95 := NB301_309.out; have hnb96 := NB309_305.out; have hnc96 := NB305_309.out; have hcz97_0 : w90.cell? ⟨gb309, 0, none⟩ = some (.int .u64 0) := (blk_cell BK309.out 0).trans rfl; have hcz97_1 : w90.cell? ⟨gb309, 1, none⟩ = some (.int .u64 0) := (blk_cell BK309.out 1).trans rfl; have hfz97_0 := blk_frozen BK309.out 0; have hfz97_1 := blk_frozen BK309.out 1))
             have n0_ : Aside0 (((w90.setCell ⟨gb309, 0, none⟩ (.int .u64 t306)).setCell ⟨gb309, 1, none⟩ (.int .u64 t307)).heap[gb280]? = some (.cells #[.int .i64 a0_0, .int .i64 a0_1, .int .i64 a0_2, .int .i64 a0_3, .int .i64 a0_4, .int .i64 a0_5, .int .i64 a0_6, .int .i64 a0_7] 39 (0, 0))) := ⟨by (with_reducible repeat (first | refine blk_drewN ?_ _ | refine blk_drew ?_ | refine blk_alloc ?_ _)); refine blk_far ?_ NB280_309.out _; (with_reducible repeat (first | refine blk_drewN ?_ _ | refine blk_drew ?_ | refine blk_alloc ?_ _)); refine blk_far ?_ NB280_309.out _; exact kA⟩
             have n1_ : Aside0 (((w90.setCell ⟨gb309, 0, none⟩ (.int .u64 t306)).setCell ⟨gb309, 1, none⟩ (.int .u64 t307)).heap[gb286]? = some (.cells #[.int .u64 t282, .int .u64 t283] 25 (0, 0))) := ⟨by (with_reducible repeat (first | refine blk_drewN ?_ _ | refine blk_drew ?_ | refine blk_alloc ?_ _)); refine blk_far ?_ NB286_309.out _; (with_reducible repeat (first | refine blk_drewN ?_ _ | refine blk_drew ?_ | refine blk_alloc ?_ _)); refine blk_far ?_ NB286_309.out _; exact kA⟩
             have n2_ : Aside0 (((w90.setCell ⟨gb309, 0, none⟩ (.int .u64 t306)).setCell ⟨gb309, 1, none⟩ (.int .u64 t307)).heap[gb287]? = some (.cells #[.int .u64 t284, .int .u64 t285] 25 (0, 0))) := ⟨by (with_reducible repeat (first | refine blk_drewN ?_ _ | refine blk_drew ?_ | refine blk_alloc ?_ _)); refine blk_far ?_ NB287_309.out _; (with_reducible repeat (first | refine blk_drewN ?_ _ | refine blk_drew ?_ | refine blk_alloc ?_ _)); refine blk_far ?_ NB287_309.out _; exact kA⟩
             have n3_ : Aside0 (((w90.setCell ⟨gb309, 0, none⟩ (.int .u64 t306)).setCell ⟨gb309, 1, none⟩ (.int .u64 t307)).heap[gb300]? = some (.cells #[.int .u64 t282, .int .u64 t283] 28 (0, 0))) := ⟨by (with_reducible repeat (first | refine blk_drewN ?_ _ | refine blk_drew ?_ | refine blk_alloc ?_ _)); refine blk_far ?_ NB300_309.out _; (with_reducible repeat (first | refine blk_drewN ?_ _ | refine blk_drew ?_ | refine blk_alloc ?_ _)); refine blk_far ?_ NB300_309.out _; exact kA⟩
             have n4_ : Aside0 (((w90.setCell ⟨gb309, 0, none⟩ (.int .u64 t306)).setCell ⟨gb309, 1, none⟩ (.int .u64 t307)).heap[gb301]? = some (.cells #[.int .u64 t284, .int .u64 t285] 28 (0, 0))) := ⟨by (with_reducible repeat (first | refine blk_drewN ?_ _ | refine blk_drew ?_ | refine blk_alloc ?_ _)); refine blk_far ?_ NB301_309.out _; (with_reducible repeat (first | refine blk_drewN ?_ _ | refine blk_drew ?_ | refine blk_alloc ?_ _)); refine blk_far ?_ NB301_309.out _; exact kA⟩
             have n5_ : Aside0 (((w90.setCell ⟨gb309, 0, none⟩ (.int .u64 t306)).setCell ⟨gb309, 1, none⟩ (.int .u64 t307)).heap[gb305]? = some (.cells #[.int .u64 t302, .int .u64 t303] 28 (0, 0))) := ⟨by (with_reducible repeat (first | refine blk_drewN ?_ _ | refine blk_drew ?_ | refine blk_alloc ?_ _)); refine blk_far ?_ NB305_309.out _; (with_reducible repeat (first | refine blk_drewN ?_ _ | refine blk_drew ?_ | refine blk_alloc ?_ _)); refine blk_far ?_ NB305_309.out _; exact kA⟩
             have n6_ : Aside0 (((w90.setCell ⟨gb309, 0, none⟩ (.int .u64 t306)).setCell ⟨gb309, 1, none⟩ (.int .u64 t307)).heap[gb309]? = some (.cells #[.int .u64 t306, .int .u64 t307] 28 (0, 0))) := ⟨by (with_reducible repeat (first | refine blk_drewN ?_ _ | refine blk_drew ?_ | refine blk_alloc ?_ _)); refine blk_put (cs := #[.int .u64 t306, .int .u64 0]) ?_ 1 _ rfl; (with_reducible repeat (first | refine blk_drewN ?_ _ | refine blk_drew ?_ | refine blk_alloc ?_ _)); refine blk_put (cs := #[.int .u64 0, .int .u64 0]) ?_ 0 _ rfl; exact kA⟩
             have n7_ : Aside0 (Below w.heap.size w ((w90.setCell ⟨gb309, 0, none⟩ (.int .u64 t306)).setCell ⟨gb309, 1, none⟩ (.int .u64 t307))) := ⟨bA⟩
             (try clear BK280); (try clear BK286); (try clear BK287); (try clear BK300); (try clear BK301); (try clear BK305); (try clear BK309); (try clear HB)
             generalize ((w90.setCell ⟨gb309, 0, none⟩ (.int .u64 t306)).setCell ⟨gb309, 1, none⟩ (.int .u64 t307)) = w98 at n0_ n1_ n2_ n3_ n4_ n5_ n6_ n7_ ⊢
             have BK280 := n0_; have BK286 := n1_; have BK287 := n2_; have BK300 := n3_; have BK301 := n4_; have BK305 := n5_; have BK309 := n6_; have HB := n7_; clear n0_ n1_ n2_ n3_ n4_ n5_ n6_ n7_; have n0_ := Aside0.mk (blk_drew BK280.out); have n1_ := Aside0.mk (blk_drew BK286.out); have n2_ := Aside0.mk (blk_drew BK287.out); have n3_ := Aside0.mk (blk_drew BK300.out); have n4_ := Aside0.mk (blk_drew BK301.out); have n5_ := Aside0.mk (blk_drew BK305.out); have n6_ := Aside0.mk (blk_drew BK309.out); have n7_ := Aside0.mk (below_drew1 HB.out); clear BK280 BK286 BK287 BK300 BK301 BK305 BK309 HB; have BK280 := n0_; have BK286 := n1_; have BK287 := n2_; have BK300 := n3_; have BK301 := n4_; have BK305 := n5_; have BK309 := n6_; have HB := n7_; clear n0_ n1_ n2_ n3_ n4_ n5_ n6_ n7_
             refine start_ (n := 28) (S := fun w' => w'.cell? ⟨gb305, 0, none⟩ = some (.int .u64 t302) ∧ w'.cell? ⟨gb305, 1, none⟩ = some (.int .u64 t303) ∧ w'.cell? ⟨gb309, 0, none⟩ = some (.int .u64 t306) ∧ w'.cell? ⟨gb309, 1, none⟩ = some (.int .u64 t307) ∧ w'.cell? ⟨gb286, 0, none⟩ = some (.int .u64 t282) ∧ w'.cell? ⟨gb286, 1, none⟩ = some (.int .u64 t283) ∧ w'.cell? ⟨gb280, 0, none⟩ = some (.int .i64 a0_0) ∧ w'.cell? ⟨gb280, 1, none⟩ = some (.int .i64 a0_1) ∧ w'.cell? ⟨gb280, 2, none⟩ = some (.int .i64 a0_2) ∧ w'.cell? ⟨gb280, 3, none⟩ = some (.int .i64 a0_3) ∧ w'.cell? ⟨gb280, 4, none⟩ = some (.int .i64 a0_4) ∧ w'.cell? ⟨gb280, 5, none⟩ = some (.int .i64 a0_5) ∧ w'.cell? ⟨gb280, 6, none⟩ = some (.int .i64 a0_6) ∧ w'.cell? ⟨gb280, 7, none⟩ = some (.int .i64 a0_7) ∧ w'.cell? ⟨gb287, 0, none⟩ = some (.int .u64 t284) ∧ w'.cell? ⟨gb287, 1, none⟩ = some (.int .u64 t285)) (ds := []) #[false, false, false, false, false, false, false, false, false, false, false, false, false, false, false, false, false, false, false, false, false, false, false, false, false, false, false, false] (by kernel_rfl) rfl rfl ⟨(blk_cell BK305.out 0).trans rfl, (blk_cell BK305.out 1).trans rfl, (blk_cell BK309.out 0).trans rfl, (blk_cell BK309.out 1).trans rfl, (blk_cell BK286.out 0).trans rfl, (blk_cell BK286.out 1).trans rfl, (blk_cell BK280.out 0).trans rfl, (blk_cell BK280.out 1).trans rfl, (blk_cell BK280.out 2).trans rfl, (blk_cell BK280.out 3).trans rfl, (blk_cell BK280.out 4).trans rfl, (blk_cell BK280.out 5).trans rfl, (blk_cell BK280.out 6).trans rfl, (blk_cell BK280.out 7).trans rfl, (blk_cell BK287.out 0).trans rfl, (blk_cell BK287.out 1).trans rfl⟩ (fun hHeld => ?_); refine with_tabW backfilllaw11_ConfigLaws.tab16 backfilllaw11_ConfigLaws.bits16 (fun HT_ HW_ => ?_)
             generalize w98.drew = w99 at BK280 BK286 BK287 BK300 BK301 BK305 BK309 HB hHeld ⊢
             refine pure_ (i := 0) (N := some 145) (v := ?_) (a' := ?_) #[true, false, false, false, false, false, false, false, false, false, false, false, false, false, false, false, false, false, false, false, false, false, false, false, false, false, false, false] rfl rfl (any_of HT_.out (by kernel_rfl)) (fun _ _ _ h => h) (Or.inl ⟨by rfl, ?_⟩) ?_ ?_
             rotate_left
             ·intro w'
              go_simp; with_reducible rfl
             rotate_left
             ·simp only [Act.put, List.setIfInBounds_toArray, List.set_cons_zero, List.set_cons_succ, i64_w, i32_w]
              rfl
             refine pure_ (i := 1) (N := some 146) (v := ?_) (a' := ?_) #[true, true, false, false, false, false, false, false, false, false, false, false, false, false, false, false, false, false, false, false, false, false, false, false, false, false, false, false] rfl rfl (any_of HT_.out (by kernel_rfl)) (fun _ _ _ h => h) (Or.inl ⟨by rfl, ?_⟩) ?_ ?_
             rotate_left
             ·intro w'
              go_simp; with_reducible rfl
             rotate_left
             ·simp only [Act.put, List.setIfInBounds_toArray, List.set_cons_zero, List.set_cons_succ, i64_w, i32_w]
              rfl
             refine pure_ (i := 2) (N := some 147) (v := ?_) (a' := ?_) #[true, true, true, false, false, false, false, false, false, false, false, false, false, false, false, false, false, false, false, false, false, false, false, false, false, false, false, false] rfl rfl (any_of HT_.out (by kernel_rfl)) (fun _ _ _ h => h) (Or.inl ⟨by rfl, ?_⟩) ?_ ?_
             rotate_left
             ·intro w'
              go_simp; with_reducible rfl
             rotate_left
             ·simp only [Act.put, List.setIfInBounds_toArray, List.set_cons_zero, List.set_cons_succ, i64_w, i32_w]
              rfl
             refine pure_ (i := 3) (N := some 148) (v := ?_) (a' := ?_) #[true, true, true, true, false, false, false, false, false, false, false, false, false, false, false, false, false, false, false, false, false, false, false, false, false, false, false, false] rfl rfl (any_of HT_.out (by kernel_rfl)) (fun _ _ _ h => h) (Or.inl ⟨by rfl, ?_⟩) ?_ ?_
             rotate_left
             ·intro w'
              go_simp; with_reducible rfl
             rotate_left
             ·simp only [Act.put, List.setIfInBounds_toArray, List.set_cons_zero, List.set_cons_succ, i64_w, i32_w]
              rfl
             refine pure_ (i := 4) (N := some 149) (v := ?_) (a' := ?_) #[true, true, true, true, true, false, false, false, false, false, false, false, false, false, false, false, false, false, false, false, false, false, false, false, false, false, false, false] rfl rfl (any_of HT_.out (by kernel_rfl)) (fun _ _ _ h => h) (Or.inl ⟨by rfl, ?_⟩) ?_ ?_
             rotate_left
             ·intro w'
              go_simp; with_reducible rfl
             rotate_left
             ·simp only [Act.put, List.setIfInBounds_toArray, List.set_cons_zero, List.set_cons_succ, i64_w, i32_w]
              rfl
             refine pure_ (i := 5) (N := some 150) (v := ?_) (a' := ?_) #[true, true, true, true, true, true, false, false, false, false, false, false, false, false, false, false, false, false, false, false, false, false, false, false, false, false, false, false] rfl rfl (any_of HT_.out (by kernel_rfl)) (fun _ _ _ h => h) (Or.inl ⟨by rfl, ?_⟩) ?_ ?_
             rotate_left
             ·intro w'
              go_simp; with_reducible rfl
             rotate_left
             ·simp only [Act.put, List.setIfInBounds_toArray, List.set_cons_zero, List.set_cons_succ, i64_w, i32_w]
              rfl
             refine pure_ (i := 6) (N := some 151) (v := ?_) (a' := ?_) #[true, true, true, true, true, true, true, false, false, false, false, false, false, false, false, false, false, false, false, false, false, false, false, false, false, false, false, false] rfl rfl (any_of HT_.out (by kernel_rfl)) (fun _ _ _ h => h) (Or.inl ⟨by rfl, ?_⟩) ?_ ?_
             rotate_left
             ·intro w'
              go_simp; with_reducible rfl
             rotate_left
             ·simp only [Act.put, List.setIfInBounds_toArray, List.set_cons_zero, List.set_cons_succ, i64_w, i32_w]
              rfl
             refine pure_ (i := 7) (N := some 152) (v := ?_) (a' := ?_) #[true, true, true, true, true, true, true, true, false, false, false, false, false, false, false, false, false, false, false, false, false, false, false, false, false, false, false, false] rfl rfl (any_of HT_.out (by kernel_rfl)) (fun _ _ _ h => h) (Or.inl ⟨by rfl, ?_⟩) ?_ ?_
             rotate_left
             ·intro w'
              go_simp; with_reducible rfl
             rotate_left
             ·simp only [Act.put, List.setIfInBounds_toArray, List.set_cons_zero, List.set_cons_succ, i64_w, i32_w]
              rfl
             refine take_ (i := 8) (N := some 153) (v := ?_) (a' := ?_) #[true, true, true, true, true, true, true, true, true, false, false, false, false, false, false, false, false, false, false, false, false, false, false, false, false, false, false, false] rfl rfl (take_ofW HT_.out HW_.out (by kernel_rfl)) (fun _ _ _ h => h) (Or.inl ⟨by rfl, ?_⟩) hHeld ?_ ?_
             rotate_left
             ·rintro w' ⟨s0, s1, s2, s3, s4, s5, s6, s7, s8, s9, s10, s11, s12, s13, s14, s15⟩
              go_simp; with_reducible rfl
             rotate_left
             ·simp only [Act.put, List.setIfInBounds_toArray, List.set_cons_zero, List.set_cons_succ, i64_w, i32_w]
              rfl
             refine take_ (i := 9) (N := some 154) (v := ?_) (a' := ?_) #[true, true, true, true, true, true, true, true, true, true, false, false, false, false, false, false, false, false, false, false, false, false, false, false, false, false, false, false] rfl rfl (take_ofW HT_.out HW_.out (by kernel_rfl)) (fun _ _ _ h => h) (Or.inl ⟨by rfl, ?_⟩) hHeld ?_ ?_
             rotate_left
             ·rintro w' ⟨s0, s1, s2, s3, s4, s5, s6, s7, s8, s9, s10, s11, s12, s13, s14, s15⟩
              go_simp; with_reducible rfl
             rotate_left
             ·simp only [Act.put, List.setIfInBounds_toArray, List.set_cons_zero, List.set_cons_succ, i64_w, i32_w]
              rfl
             refine one_ (i := 10) (N := some 155) #[true, true, true, true, true, true, true, true, true, true, true, false, false, false, false, false, false, false, false, false, false, false, false, false, false, false, false, false] rfl rfl (one_of HT_.out (by kernel_rfl)) (by decide) (fun K hK => ?_)
             refine goes_ Try.func39 (by kernel_rfl) rfl #[.agg #[.int .u64 t302, .int .u64 t303], .agg #[.int .u64 t306, .int .u64 t307]] (by rfl) rfl rfl aA ?_
             with_reducible refine (backfillref01_Cmp.calls kj31 t302 t303 t306 t307 t310 _ A58.out).mono ?_
             rintro e w100 ⟨rfl, hb⟩
             refine ⟨_, rfl, ?_⟩; have n0_ := Aside0.mk (blk_below (g := gb280) kA hb); have n1_ := Aside0.mk (blk_below (g := gb286) kA hb); have n2_ := Aside0.mk (blk_below (g := gb287) kA hb); have n3_ := Aside0.mk (blk_below (g := gb300) kA hb); have n4_ := Aside0.mk (blk_below (g := gb301) kA hb); have n5_ := Aside0.mk (blk_below (g := gb305) kA hb); have n6_ := Aside0.mk (blk_below (g := gb309) kA hb); have n7_ := Aside0.mk (below_step bA hb); clear BK280 BK286 BK287 BK300 BK301 BK305 BK309 HB; have BK280 := n0_; have BK286 := n1_; have BK287 := n2_; have BK300 := n3_; have BK301 := n4_; have BK305 := n5_; have BK309 := n6_; have HB := n7_; clear n0_ n1_ n2_ n3_ n4_ n5_ n6_ n7_; (try clear hb)
             refine hK.out _ _ ⟨(blk_cell BK305.out 0).trans rfl, (blk_cell BK305.out 1).trans rfl, (blk_cell BK309.out 0).trans rfl, (blk_cell BK309.out 1).trans rfl, (blk_cell BK286.out 0).trans rfl, (blk_cell BK286.out 1).trans rfl, (blk_cell BK280.out 0).trans rfl, (blk_cell BK280.out 1).trans rfl, (blk_cell BK280.out 2).trans rfl, (blk_cell BK280.out 3).trans rfl, (blk_cell BK280.out 4).trans rfl, (blk_cell BK280.out 5).trans rfl, (blk_cell BK280.out 6).trans rfl, (blk_cell BK280.out 7).trans rfl, (blk_cell BK287.out 0).trans rfl, (blk_cell BK287.out 1).trans rfl⟩ (fun hHeld => ?_)
             clear hK K
             refine norm_ (a' := ?_) ?_ ?_
             rotate_left
             ·show Act.put _ (some 155) _ = _
              simp only [Act.put, List.setIfInBounds_toArray, List.set_cons_zero, List.set_cons_succ, i64_w, i32_w]
              rfl
             refine pure_ (i := 11) (N := some 156) (v := ?_) (a' := ?_) #[true, true, true, true, true, true, true, true, true, true, true, true, false, false, false, false, false, false, false, false, false, false, false, false, false, false, false, false] rfl rfl (any_of HT_.out (by kernel_rfl)) (fun _ _ _ h => h) (Or.inl ⟨by rfl, ?_⟩) ?_ ?_
             rotate_left
             ·intro w'
              go_simp; with_reducible rfl
             rotate_left
             ·simp only [Act.put, List.setIfInBounds_toArray, List.set_cons_zero, List.set_cons_succ, i64_w, i32_w]
              rfl
             refine pure_ (i := 12) (N := some 157) (v := ?_) (a' := ?_) #[true, true, true, true, true, true, true, true, true, true, true, true, true, false, false, false, false, false, false, false, false, false, false, false, false, false, false, false] rfl rfl (any_of HT_.out (by kernel_rfl)) (fun _ _ _ h => h) (Or.inl ⟨by rfl, ?_⟩) ?_ ?_
             rotate_left
             ·intro w'
              go_simp; with_reducible rfl
             rotate_left
             ·simp only [Act.put, List.setIfInBounds_toArray, List.set_cons_zero, List.set_cons_succ, i64_w, i32_w]
              rfl
             refine pure_ (i := 13) (N := some 158) (v := ?_) (a' := ?_) #[true, true, true, true, true, true, true, true, true, true, true, true, true, true, false, false, false, false, false, false, false, false, false, false, false, false, false, false] rfl rfl (any_of HT_.out (by kernel_rfl)) (fun _ _ _ h => h) (Or.inl ⟨by rfl, ?_⟩) ?_ ?_
             rotate_left
             ·intro w'
              go_simp; with_reducible rfl
             rotate_left
             ·simp only [Act.put, List.setIfInBounds_toArray, List.set_cons_zero, List.set_cons_succ, i64_w, i32_w]
              rfl
             refine pure_ (i := 15) (N := some 160) (v := ?_) (a' := ?_) #[true, true, true, true, true, true, true, true, true, true, true, true, true, true, false, true, false, false, false, false, false, false, false, false, false, false, false, false] rfl rfl (any_of HT_.out (by kernel_rfl)) (fun _ _ _ h => h) (Or.inl ⟨by rfl, ?_⟩) ?_ ?_
             rotate_left
             ·intro w'
              go_simp; with_reducible rfl
             rotate_left
             ·simp only [Act.put, List.setIfInBounds_toArray, List.set_cons_zero, List.set_cons_succ, i64_w, i32_w]
              rfl
             refine pure_ (i := 17) (N := some 162) (v := ?_) (a' := ?_) #[true, true, true, true, true, true, true, true, true, true, true, true, true, true, false, true, false, true, false, false, false, false, false, false, false, false, false, false] rfl rfl (any_of HT_.out (by kernel_rfl)) (fun _ _ _ h => h) (Or.inl ⟨by rfl, ?_⟩) ?_ ?_
             rotate_left
             ·intro w'
              go_simp; with_reducible rfl
             rotate_left
             ·simp only [Act.put, List.setIfInBounds_toArray, List.set_cons_zero, List.set_cons_succ, i64_w, i32_w]
              rfl
             refine take_ (i := 14) (N := some 159) (v := ?_) (a' := ?_) #[true, true, true, true, true, true, true, true, true, true, true, true, true, true, true, true, false, true, false, false, false, false, false, false, false, false, false, false] rfl rfl (take_ofW HT_.out HW_.out (by kernel_rfl)) (fun _ _ _ h => h) (Or.inl ⟨by rfl, ?_⟩) hHeld ?_ ?_
             rotate_left
             ·rintro w' ⟨s0, s1, s2, s3, s4, s5, s6, s7, s8, s9, s10, s11, s12, s13, s14, s15⟩
              go_simp; with_reducible rfl
             rotate_left
             ·simp only [Act.put, List.setIfInBounds_toArray, List.set_cons_zero, List.set_cons_succ, i64_w, i32_w]
              rfl
             refine pure_ (i := 16) (N := some 161) (v := ?_) (a' := ?_) #[true, true, true, true, true, true, true, true, true, true, true, true, true, true, true, true, true, true, false, false, false, false, false, false, false, false, false, false] rfl rfl (any_of HT_.out (by kernel_rfl)) (fun _ _ _ h => h) (Or.inl ⟨by rfl, ?_⟩) ?_ ?_
             rotate_left
             ·intro w'
              go_simp; with_reducible rfl
             rotate_left
             ·simp only [Act.put, List.setIfInBounds_toArray, List.set_cons_zero, List.set_cons_succ, i64_w, i32_w]
              rfl
             refine take_ (i := 18) (N := some 163) (v := ?_) (a' := ?_) #[true, true, true, true, true, true, true, true, true, true, true, true, true, true, true, true, true, true, true, false, false, false, false, false, false, false, false, false] rfl rfl (take_ofW HT_.out HW_.out (by kernel_rfl)) (fun _ _ _ h => h) (Or.inl ⟨by rfl, ?_⟩) hHeld ?_ ?_
             rotate_left
             ·rintro w' ⟨s0, s1, s2, s3, s4, s5, s6, s7, s8, s9, s10, s11, s12, s13, s14, s15⟩
              go_simp; with_reducible rfl
             rotate_left
             ·simp only [Act.put, List.setIfInBounds_toArray, List.set_cons_zero, List.set_cons_succ, i64_w, i32_w]
              rfl
             refine pure_ (i := 19) (N := some 164) (v := ?_) (a' := ?_) #[true, true, true, true, true, true, true, true, true, true, true, true, true, true, true, true, true, true, true, true, false, false, false, false, false, false, false, false] rfl rfl (any_of HT_.out (by kernel_rfl)) (fun _ _ _ h => h) (Or.inl ⟨by rfl, ?_⟩) ?_ ?_
             rotate_left
             ·intro w'
              go_simp; with_reducible rfl
             rotate_left
             ·simp only [Act.put, List.setIfInBounds_toArray, List.set_cons_zero, List.set_cons_succ, i64_w, i32_w]
              rfl
             refine pure_ (i := 20) (N := some 165) (v := ?_) (a' := ?_) #[true, true, true, true, true, true, true, true, true, true, true, true, true, true, true, true, true, true, true, true, true, false, false, false, false, false, false, false] rfl rfl (any_of HT_.out (by kernel_rfl)) (fun _ _ _ h => h) (Or.inl ⟨by rfl, ?_⟩) ?_ ?_
             rotate_left
             ·intro w'
              go_simp; with_reducible rfl
             rotate_left
             ·simp only [Act.put, List.setIfInBounds_toArray, List.set_cons_zero, List.set_cons_succ, i64_w, i32_w]
              rfl
             refine pure_ (i := 21) (N := some 166) (v := ?_) (a' := ?_) #[true, true, true, true, true, true, true, true, true, true, true, true, true, true, true, true, true, true, true, true, true, true, false, false, false, false, false, false] rfl rfl (any_of HT_.out (by kernel_rfl)) (fun _ _ _ h => h) (Or.inl ⟨by rfl, ?_⟩) ?_ ?_
             rotate_left
             ·intro w'
              go_simp; with_reducible rfl
             rotate_left
             ·simp only [Act.put, List.setIfInBounds_toArray, List.set_cons_zero, List.set_cons_succ, i64_w, i32_w]
              rfl
             refine pure_ (i := 22) (N := some 167) (v := ?_) (a' := ?_) #[true, true, true, true, true, true, true, true, true, true, true, true, true, true, true, true, true, true, true, true, true, true, true, false, false, false, false, false] rfl rfl (any_of HT_.out (by kernel_rfl)) (fun _ _ _ h => h) (Or.inl ⟨by rfl, ?_⟩) ?_ ?_
             rotate_left
             ·intro w'
              go_simp; with_reducible rfl
             rotate_left
             ·simp only [Act.put, List.setIfInBounds_toArray, List.set_cons_zero, List.set_cons_succ, i64_w, i32_w]
              rfl
             refine pure_ (i := 24) (N := some 169) (v := ?_) (a' := ?_) #[true, true, true, true, true, true, true, true, true, true, true, true, true, true, true, true, true, true, true, true, true, true, true, false, true, false, false, false] rfl rfl (any_of HT_.out (by kernel_rfl)) (fun _ _ _ h => h) (Or.inl ⟨by rfl, ?_⟩) ?_ ?_
             rotate_left
             ·intro w'
              go_simp; with_reducible rfl
             rotate_left
             ·simp only [Act.put, List.setIfInBounds_toArray, List.set_cons_zero, List.set_cons_succ, i64_w, i32_w]
              rfl
             refine take_ (i := 23) (N := some 168) (v := ?_) (a' := ?_) #[true, true, true, true, true, true, true, true, true, true, true, true, true, true, true, true, true, true, true, true, true, true, true, true, true, false, false, false] rfl rfl (take_ofW HT_.out HW_.out (by kernel_rfl)) (fun _ _ _ h => h) (Or.inl ⟨by rfl, ?_⟩) hHeld ?_ ?_
             rotate_left
             ·rintro w' ⟨s0, s1, s2, s3, s4, s5, s6, s7, s8, s9, s10, s11, s12, s13, s14, s15⟩
              go_simp; with_reducible rfl
             rotate_left
             ·simp only [Act.put, List.setIfInBounds_toArray, List.set_cons_zero, List.set_cons_succ, i64_w, i32_w]
              rfl
             refine pure_ (i := 25) (N := some 170) (v := ?_) (a' := ?_) #[true, true, true, true, true, true, true, true, true, true, true, true, true, true, true, true, true, true, true, true, true, true, true, true, true, true, false, false] rfl rfl (any_of HT_.out (by kernel_rfl)) (fun _ _ _ h => h) (Or.inl ⟨by rfl, ?_⟩) ?_ ?_
             rotate_left
             ·intro w'
              go_simp; with_reducible rfl
             rotate_left
             ·simp only [Act.put, List.setIfInBounds_toArray, List.set_cons_zero, List.set_cons_succ, i64_w, i32_w]
              rfl
             refine pure_ (i := 26) (N := some 171) (v := ?_) (a' := ?_) #[true, true, true, true, true, true, true, true, true, true, true, true, true, true, true, true, true, true, true, true, true, true, true, true, true, true, true, false] rfl rfl (any_of HT_.out (by kernel_rfl)) (fun _ _ _ h => h) (Or.inl ⟨by rfl, ?_⟩) ?_ ?_
             rotate_left
             ·intro w'
              go_simp; with_reducible rfl
             rotate_left
             ·simp only [Act.put, List.setIfInBounds_toArray, List.set_cons_zero, List.set_cons_succ, i64_w, i32_w]
              rfl
             refine pure_ (i := 27) (N := some 2) (v := ?_) (a' := ?_) #[true, true, true, true, true, true, true, true, true, true, true, true, true, true, true, true, true, true, true, true, true, true, true, true, true, true, true, true] rfl rfl (any_of HT_.out (by kernel_rfl)) (fun _ _ _ h => h) (Or.inl ⟨by rfl, ?_⟩) ?_ ?_
             rotate_left
             ·intro w'
              go_simp; with_reducible rfl
             rotate_left
             ·simp only [Act.put, List.setIfInBounds_toArray, List.set_cons_zero, List.set_cons_succ, i64_w, i32_w]
              rfl
             refine done_ (done_of HT_.out (by kernel_rfl)) ?_
             try go_wp2
             go_ret
             exact ⟨by first | rfl | (simp [errW_none, errW_some] <;> rfl) | (simp [*, errW_none, errW_some] <;> rfl), bA⟩
            ·rw [if_neg c60] at H
             have c60b0 : ((t282 == 0 && (t283 == 0)) == (a0_4 == 0)) = false := by simpa using c60
             (try (have c60b1 : decide ((t282 == 0 && (t283 == 0)) = (a0_4 == 0)) = false := by simpa using c60))
             (try (have c60b2 : ((t282 == 0 && (t283 == 0)) == (a0_4 == 0)) = false := by simpa using c60))
             (try (have c60b3 : ¬ ((t282 == 0 && (t283 == 0)) = (a0_4 == 0)) := by simpa using c60))
             clear c60
             exact absurd H (by simp)
           ·rw [if_neg c59] at H
            have c59b0 : decide (t310 ≤ 0) = false := decide_eq_false c59
            clear c59
            exact absurd H (by simp)
          ·replace c57 := Bool.eq_false_iff.mpr c57
           subst c57
           have H1 : (none) = some r := by rw [if_neg (show ¬ (false = true) by decide)] at H; exact H
           clear H
           have H := H1
           clear H1
           exact absurd H (by simp)
         ·replace c56 := Bool.eq_false_iff.mpr c56
          subst c56
          have H1 : (none) = some r := by rw [if_neg (show ¬ (false = true) by decide)] at H; exact H
          clear H
          have H := H1
          clear H1
          exact absurd H (by simp)
        ·replace c55 := Bool.eq_false_iff.mpr c55
         subst c55
         have H1 : (none) = some r := by rw [if_neg (show ¬ (false = true) by decide)] at H; exact H
         clear H
         have H := H1
         clear H1
         exact absurd H (by simp)
 ·rw [if_neg c5] at H
  have c5b0 : (t288 == 0) = false := beq_eq_false_iff_ne.mpr c5
  have c5b1 : (t288 != 0) = true := bne_iff_ne.mpr c5
  by_cases c101 : t281 = true
  ·subst c101
   have H1 : ((config_Lead.f k a0_0 a0_1 a0_2 a0_3 a0_4 a0_5 a0_6 a0_7).bind fun t289 => (if t289 = 0 then ((config_Bound.f k a0_0 a0_1 a0_2 a0_3 a0_4 a0_5 a0_6 a0_7).bind fun t290 => (if t290 = 0 then ((config_Most.f k a0_0 a0_1 a0_2 a0_3 a0_4 a0_5 a0_6 a0_7).bind fun t291 => (if t291 = 0 then ((config_Floor.f k a0_0 a0_1 a0_2 a0_3 a0_4 a0_5 a0_6 a0_7).bind fun t292 => (if t292 = 0 then (if (t282 == 0 && (t283 == 0)) = true then (some (t284 == 0 && (t285 == 0))) else (none)) else (none))) else (none))) else (none))) else (none))) = some r := by rw [if_pos rfl] at H; exact H
   clear H
   have H := H1
   clear H1; replace H := Option.bind_eq_some_iff.mp H; obtain ⟨t289, A1020, H⟩ := H; replace H : (if t289 = 0 then ((config_Bound.f k a0_0 a0_1 a0_2 a0_3 a0_4 a0_5 a0_6 a0_7).bind fun t290 => (if t290 = 0 then ((config_Most.f k a0_0 a0_1 a0_2 a0_3 a0_4 a0_5 a0_6 a0_7).bind fun t291 => (if t291 = 0 then ((config_Floor.f k a0_0 a0_1 a0_2 a0_3 a0_4 a0_5 a0_6 a0_7).bind fun t292 => (if t292 = 0 then (if (t282 == 0 && (t283 == 0)) = true then (some (t284 == 0 && (t285 == 0))) else (none)) else (none))) else (none))) else (none))) else (none)) = some r := H; have A102 := Aside0.mk A1020; clear A1020
   by_cases c103 : t289 = 0
   ·rw [if_pos c103] at H
    have c103b0 : (t289 == 0) = true := beq_iff_eq.mpr c103
    have c103b1 : (t289 != 0) = false := bne_eq_false_iff_eq.mpr c103
    clear c103; replace H := Option.bind_eq_some_iff.mp H; obtain ⟨t290, A1040, H⟩ := H; replace H : (if t290 = 0 then ((config_Most.f k a0_0 a0_1 a0_2 a0_3 a0_4 a0_5 a0_6 a0_7).bind fun t291 => (if t291 = 0 then ((config_Floor.f k a0_0 a0_1 a0_2 a0_3 a0_4 a0_5 a0_6 a0_7).bind fun t292 => (if t292 = 0 then (if (t282 == 0 && (t283 == 0)) = true then (some (t284 == 0 && (t285 == 0))) else (none)) else (none))) else (none))) else (none)) = some r := H; have A104 := Aside0.mk A1040; clear A1040
    by_cases c105 : t290 = 0
    ·rw [if_pos c105] at H
     have c105b0 : (t290 == 0) = true := beq_iff_eq.mpr c105
     have c105b1 : (t290 != 0) = false := bne_eq_false_iff_eq.mpr c105
     clear c105; replace H := Option.bind_eq_some_iff.mp H; obtain ⟨t291, A1060, H⟩ := H; replace H : (if t291 = 0 then ((config_Floor.f k a0_0 a0_1 a0_2 a0_3 a0_4 a0_5 a0_6 a0_7).bind fun t292 => (if t292 = 0 then (if (t282 == 0 && (t283 == 0)) = true then (some (t284 == 0 && (t285 == 0))) else (none)) else (none))) else (none)) = some r := H; have A106 := Aside0.mk A1060; clear A1060
     by_cases c107 : t291 = 0
     ·rw [if_pos c107] at H
      have c107b0 : (t291 == 0) = true := beq_iff_eq.mpr c107
      have c107b1 : (t291 != 0) = false := bne_eq_false_iff_eq.mpr c107
      clear c107; replace H := Option.bind_eq_some_iff.mp H; obtain ⟨t292, A1080, H⟩ := H; replace H : (if t292 = 0 then (if (t282 == 0 && (t283 == 0)) = true then (some (t284 == 0 && (t285 == 0))) else (none)) else (none)) = some r := H; have A108 := Aside0.mk A1080; clear A1080
      by_cases c109 : t292 = 0
      ·rw [if_pos c109] at H
       have c109b0 : (t292 == 0) = true := beq_iff_eq.mpr c109
       have c109b1 : (t292 != 0) = false := bne_eq_false_iff_eq.mpr c109
       clear c109
       by_cases c110 : (t282 == 0 && (t283 == 0)) = true
       ·rw [if_pos c110] at H
        have c110b0 : (t282 == 0 && (t283 == 0)) = true := c110
        (try (have c110b1 : decide (t282 = 0 && (t283 == 0)) = true := by simpa using c110))
        (try (have c110b2 : (t282 == 0 && (t283 == 0)) = true := by simpa using c110))
        clear c110
        obtain rfl := Option.some.inj H
        go_enter Try.func6, Try.ntmps6
        go_wp2_with (first | ((with_reducible refine gate_dst (N := 1) rfl ?_); refine bxA 1 #[.int .i64 a0_0, .int .i64 a0_1, .int .i64 a0_2, .int .i64 a0_3, .int .i64 a0_4, .int .i64 a0_5, .int .i64 a0_6, .int .i64 a0_7] 39 ?_; intro gb280 hg w111 hbox hb; have n0_ := Aside0.mk (below_step bA hb); have n1_ := Aside0.mk (hbox); have n2_ := Aside0.mk (gwA hg bA); have n3_ := Aside0.mk (gwA hg bA); clear HB; have HB := n0_; have BK280 := n1_; have GW280 := n2_; have GE280 := n3_; clear n0_ n1_ n2_ n3_ hb hbox hg) | ((with_reducible refine gate_callee (f := 24) rfl ?_); refine goesL_ (some 15) rfl rfl Try.func24 (by kernel_rfl) rfl #[] rfl aA ?_; (with_reducible refine (backfilllaw11_shown.calls k  true _ A2.out).mono ?_); rintro e w112 ⟨rfl, hb⟩; refine ⟨_, rfl, ?_⟩; have n0_ := Aside0.mk (blk_below (g := gb280) kA hb); have n1_ := Aside0.mk (below_step bA hb); clear BK280 HB; have BK280 := n0_; have HB := n1_; clear n0_ n1_; (try clear hb); have hcz113_0 : w112.cell? ⟨gb280, 0, none⟩ = some (.int .i64 a0_0) := (blk_cell BK280.out 0).trans rfl; have hcz113_1 : w112.cell? ⟨gb280, 1, none⟩ = some (.int .i64 a0_1) := (blk_cell BK280.out 1).trans rfl; have hcz113_2 : w112.cell? ⟨gb280, 2, none⟩ = some (.int .i64 a0_2) := (blk_cell BK280.out 2).trans rfl; have hcz113_3 : w112.cell? ⟨gb280, 3, none⟩ = some (.int .i64 a0_3) := (blk_cell BK280.out 3).trans rfl; have hcz113_4 : w112.cell? ⟨gb280, 4, none⟩ = some (.int .i64 a0_4) := (blk_cell BK280.out 4).trans rfl; have hcz113_5 : w112.cell? ⟨gb280, 5, none⟩ = some (.int .i64 a0_5) := (blk_cell BK280.out 5).trans rfl; have hcz113_6 : w112.cell? ⟨gb280, 6, none⟩ = some (.int .i64 a0_6) := (blk_cell BK280.out 6).trans rfl; have hcz113_7 : w112.cell? ⟨gb280, 7, none⟩ = some (.int .i64 a0_7) := (blk_cell BK280.out 7).trans rfl; have hfz113_0 := blk_frozen BK280.out 0; have hfz113_1 := blk_frozen BK280.out 1; have hfz113_2 := blk_frozen BK280.out 2; have hfz113_3 := blk_frozen BK280.out 3; have hfz113_4 := blk_frozen BK280.out 4; have hfz113_5 := blk_frozen BK280.out 5; have hfz113_6 := blk_frozen BK280.out 6; have hfz113_7 := blk_frozen BK280.out 7) | ((with_reducible refine gate_callee (f := 25) rfl ?_); refine goesL_ (some 18) rfl rfl Try.func25 (by kernel_rfl) rfl #[.agg #[.int .i64 a0_0, .int .i64 a0_1, .int .i64 a0_2, .int .i64 a0_3, .int .i64 a0_4, .int .i64 a0_5, .int .i64 a0_6, .int .i64 a0_7]] rfl aA ?_; (with_reducible refine (config_Off.calls k a0_0 a0_1 a0_2 a0_3 a0_4 a0_5 a0_6 a0_7 t282 t283 t284 t285 _ A3.out).mono ?_); rintro e w114 ⟨rfl, hb⟩; refine ⟨_, rfl, ?_⟩; have n0_ := Aside0.mk (blk_below (g := gb280) kA hb); have n1_ := Aside0.mk (below_step bA hb); clear BK280 HB; have BK280 := n0_; have HB := n1_; clear n0_ n1_; (try clear hb)) | ((with_reducible refine gate_dst (N := 4) rfl ?_); refine bxA 4 #[.int .u64 0, .int .u64 0] 25 ?_; intro gb286 hg w115 hbox hb; have n0_ := Aside0.mk (blk_below (g := gb280) kA hb); have n1_ := Aside0.mk (below_step bA hb); have n2_ := Aside0.mk (hbox); have n3_ := Aside0.mk (gwA hg bA); have n4_ := Aside0.mk (gwA hg bA); have n5_ := Aside0.mk (neA (g := gb280) hg kA); have n6_ := Aside0.mk (neB (g := gb280) hg kA); clear BK280 HB; have BK280 := n0_; have HB := n1_; have BK286 := n2_; have GW286 := n3_; have GE286 := n4_; have NB280_286 := n5_; have NB286_280 := n6_; clear n0_ n1_ n2_ n3_ n4_ n5_ n6_ hb hbox hg) | ((with_reducible refine gate_dst (N := 5) rfl ?_); refine bxA 5 #[.int .u64 0, .int .u64 0] 25 ?_; intro gb287 hg w116 hbox hb; have n0_ := Aside0.mk (blk_below (g := gb280) kA hb); have n1_ := Aside0.mk (blk_below (g := gb286) kA hb); have n2_ := Aside0.mk (below_step bA hb); have n3_ := Aside0.mk (hbox); have n4_ := Aside0.mk (gwA hg bA); have n5_ := Aside0.mk (gwA hg bA); have n6_ := Aside0.mk (neA (g := gb280) hg kA); have n7_ := Aside0.mk (neB (g := gb280) hg kA); have n8_ := Aside0.mk (neA (g := gb286) hg kA); have n9_ := Aside0.mk (neB (g := gb286) hg kA); clear BK280 BK286 HB; have BK280 := n0_; have BK286 := n1_; have HB := n2_; have BK287 := n3_; have GW287 := n4_; have GE287 := n5_; have NB280_287 := n6_; have NB287_280 := n7_; have NB286_287 := n8_; have NB287_286 := n9_; clear n0_ n1_ n2_ n3_ n4_ n5_ n6_ n7_ n8_ n9_ hb hbox hg; have hnb117 := NB286_280.out; have hnc117 := NB280_286.out; have hnb118 := NB286_287.out; have hnc118 := NB287_286.out; have hcz119_0 : w116.cell? ⟨gb286, 0, none⟩ = some (.int .u64 0) := (blk_cell BK286.out 0).trans rfl; have hcz119_1 : w116.cell? ⟨gb286, 1, none⟩ = some (.int .u64 0) := (blk_cell BK286.out 1).trans rfl; have hfz119_0 := blk_frozen BK286.out 0; have hfz119_1 := blk_frozen BK286.out 1; have hnb120 := NB287_280.out; have hnc120 := NB280_287.out; have hcz121_0 : w116.cell? ⟨gb287, 0, none⟩ = some (.int .u64 0) := (blk_cell BK287.out 0).trans rfl; have hcz121_1 : w116.cell? ⟨gb287, 1, none⟩ = some (.int .u64 0) := (blk_cell BK287.out 1).trans rfl; have hfz121_0 := blk_frozen BK287.out 0; have hfz121_1 := blk_frozen BK287.out 1; have hcz122_0 : w116.cell? ⟨gb280, 0, none⟩ = some (.int .i64 a0_0) := (blk_cell BK280.out 0).trans rfl; have hcz122_1 : w116.cell? ⟨gb280, 1, none⟩ = some (.int .i64 a0_1) := (blk_cell BK280.out 1).trans rfl; have hcz122_2 : w116.cell? ⟨gb280, 2, none⟩ = some (.int .i64 a0_2) := (blk_cell BK280.out 2).trans rfl; have hcz122_3 : w116.cell? ⟨gb280, 3, none⟩ = some (.int .i64 a0_3) := (blk_cell BK280.out 3).trans rfl; have hcz122_4 : w116.cell? ⟨gb280, 4, none⟩ = some (.int .i64 a0_4) := (blk_cell BK280.out 4).trans rfl; have hcz122_5 : w116.cell? ⟨gb280, 5, none⟩ = some (.int .i64 a0_5) := (blk_cell BK280.out 5).trans rfl; have hcz122_6 : w116.cell? ⟨gb280, 6, none⟩ = some (.int .i64 a0_6) := (blk_cell BK280.out 6).trans rfl; have hcz122_7 : w116.cell? ⟨gb280, 7, none⟩ = some (.int .i64 a0_7) := (blk_cell BK280.out 7).trans rfl; have hfz122_0 := blk_frozen BK280.out 0; have hfz122_1 := blk_frozen BK280.out 1; have hfz122_2 := blk_frozen BK280.out 2; have hfz122_3 := blk_frozen BK280.out 3; have hfz122_4 := blk_frozen BK280.out 4; have hfz122_5 := blk_frozen BK280.out 5; have hfz122_6 := blk_frozen BK280.out 6; have hfz122_7 := blk_frozen BK280.out 7) | ((with_reducible refine gate_callee (f := 27) rfl ?_); refine goesL_ (some 22) rfl rfl Try.func27 (by kernel_rfl) rfl #[.agg #[.int .i64 a0_0, .int .i64 a0_1, .int .i64 a0_2, .int .i64 a0_3, .int .i64 a0_4, .int .i64 a0_5, .int .i64 a0_6, .int .i64 a0_7]] rfl aA ?_; (with_reducible refine (config_Check.calls k a0_0 a0_1 a0_2 a0_3 a0_4 a0_5 a0_6 a0_7 t288 _ A4.out).mono ?_); rintro e w123 ⟨rfl, hb⟩; refine ⟨_, rfl, ?_⟩; have n0_ := Aside0.mk (blk_below (g := gb280) (o := .cells #[.int .i64 a0_0, .int .i64 a0_1, .int .i64 a0_2, .int .i64 a0_3, .int .i64 a0_4, .int .i64 a0_5, .int .i64 a0_6, .int .i64 a0_7] 39 (0, 0)) (by (with_reducible repeat (first | refine blk_drewN ?_ _ | refine blk_drew ?_ | refine blk_alloc ?_ _)); refine blk_far ?_ NB280_287.out _; (with_reducible repeat (first | refine blk_drewN ?_ _ | refine blk_drew ?_ | refine blk_alloc ?_ _)); refine blk_far ?_ NB280_287.out _; (with_reducible repeat (first | refine blk_drewN ?_ _ | refine blk_drew ?_ | refine blk_alloc ?_ _)); refine blk_far ?_ NB280_286.out _; (with_reducible repeat (first | refine blk_drewN ?_ _ | refine blk_drew ?_ | refine blk_alloc ?_ _)); refine blk_far ?_ NB280_286.out _; exact kA) hb); have n1_ := Aside0.mk (blk_below (g := gb286) (o := .cells #[.int .u64 t282, .int .u64 t283] 25 (0, 0)) (by (with_reducible repeat (first | refine blk_drewN ?_ _ | refine blk_drew ?_ | refine blk_alloc ?_ _)); refine blk_far ?_ NB286_287.out _; (with_reducible repeat (first | refine blk_drewN ?_ _ | refine blk_drew ?_ | refine blk_alloc ?_ _)); refine blk_far ?_ NB286_287.out _; (with_reducible repeat (first | refine blk_drewN ?_ _ | refine blk_drew ?_ | refine blk_alloc ?_ _)); refine blk_put (cs := #[.int .u64 t282, .int .u64 0]) ?_ 1 _ rfl; (with_reducible repeat (first | refine blk_drewN ?_ _ | refine blk_drew ?_ | refine blk_alloc ?_ _)); refine blk_put (cs := #[.int .u64 0, .int .u64 0]) ?_ 0 _ rfl; exact kA) hb); have n2_ := Aside0.mk (blk_below (g := gb287) (o := .cells #[.int .u64 t284, .int .u64 t285] 25 (0, 0)) (by (with_reducible repeat (first | refine blk_drewN ?_ _ | refine blk_drew ?_ | refine blk_alloc ?_ _)); refine blk_put (cs := #[.int .u64 t284, .int .u64 0]) ?_ 1 _ rfl; (with_reducible repeat (first | refine blk_drewN ?_ _ | refine blk_drew ?_ | refine blk_alloc ?_ _)); refine blk_put (cs := #[.int .u64 0, .int .u64 0]) ?_ 0 _ rfl; (with_reducible repeat (first | refine blk_drewN ?_ _ | refine blk_drew ?_ | refine blk_alloc ?_ _)); refine blk_far ?_ NB287_286.out _; (with_reducible repeat (first | refine blk_drewN ?_ _ | refine blk_drew ?_ | refine blk_alloc ?_ _)); refine blk_far ?_ NB287_286.out _; exact kA) hb); have n3_ := Aside0.mk (below_step bA hb); clear BK280 BK286 BK287 HB; have BK280 := n0_; have BK286 := n1_; have BK287 := n2_; have HB := n3_; clear n0_ n1_ n2_ n3_; (try clear hb); have hcz124_0 : w123.cell? ⟨gb280, 0, none⟩ = some (.int .i64 a0_0) := (blk_cell BK280.out 0).trans rfl; have hcz124_1 : w123.cell? ⟨gb280, 1, none⟩ = some (.int .i64 a0_1) := (blk_cell BK280.out 1).trans rfl; have hcz124_2 : w123.cell? ⟨gb280, 2, none⟩ = some (.int .i64 a0_2) := (blk_cell BK280.out 2).trans rfl; have hcz124_3 : w123.cell? ⟨gb280, 3, none⟩ = some (.int .i64 a0_3) := (blk_cell BK280.out 3).trans rfl; have hcz124_4 : w123.cell? ⟨gb280, 4, none⟩ = some (.int .i64 a0_4) := (blk_cell BK280.out 4).trans rfl; have hcz124_5 : w123.cell? ⟨gb280, 5, none⟩ = some (.int .i64 a0_5) := (blk_cell BK280.out 5).trans rfl; have hcz124_6 : w123.cell? ⟨gb280, 6, none⟩ = some (.int .i64 a0_6) := (blk_cell BK280.out 6).trans rfl; have hcz124_7 : w123.cell? ⟨gb280, 7, none⟩ = some (.int .i64 a0_7) := (blk_cell BK280.out 7).trans rfl; have hfz124_0 := blk_frozen BK280.out 0; have hfz124_1 := blk_frozen BK280.out 1; have hfz124_2 := blk_frozen BK280.out 2; have hfz124_3 := blk_frozen BK280.out 3; have hfz124_4 := blk_frozen BK280.out 4; have hfz124_5 := blk_frozen BK280.out 5; have hfz124_6 := blk_frozen BK280.out 6; have hfz124_7 := blk_frozen BK280.out 7) | (go_at_call 29; (with_reducible refine (config_Lead.calls k a0_0 a0_1 a0_2 a0_3 a0_4 a0_5 a0_6 a0_7 t289 _ A102.out).mono ?_); rintro e w125 ⟨rfl, hb⟩; have n0_ := Aside0.mk (blk_below (g := gb280) kA hb); have n1_ := Aside0.mk (blk_below (g := gb286) kA hb); have n2_ := Aside0.mk (blk_below (g := gb287) kA hb); have n3_ := Aside0.mk (below_step bA hb); clear BK280 BK286 BK287 HB; have BK280 := n0_; have BK286 := n1_; have BK287 := n2_; have HB := n3_; clear n0_ n1_ n2_ n3_; (try clear hb); have hcz126_0 : w125.cell? ⟨gb280, 0, none⟩ = some (.int .i64 a0_0) := (blk_cell BK280.out 0).trans rfl; have hcz126_1 : w125.cell? ⟨gb280, 1, none⟩ = some (.int .i64 a0_1) := (blk_cell BK280.out 1).trans rfl; have hcz126_2 : w125.cell? ⟨gb280, 2, none⟩ = some (.int .i64 a0_2) := (blk_cell BK280.out 2).trans rfl; have hcz126_3 : w125.cell? ⟨gb280, 3, none⟩ = some (.int .i64 a0_3) := (blk_cell BK280.out 3).trans rfl; have hcz126_4 : w125.cell? ⟨gb280, 4, none⟩ = some (.int .i64 a0_4) := (blk_cell BK280.out 4).trans rfl; have hcz126_5 : w125.cell? ⟨gb280, 5, none⟩ = some (.int .i64 a0_5) := (blk_cell BK280.out 5).trans rfl; have hcz126_6 : w125.cell? ⟨gb280, 6, none⟩ = some (.int .i64 a0_6) := (blk_cell BK280.out 6).trans rfl; have hcz126_7 : w125.cell? ⟨gb280, 7, none⟩ = some (.int .i64 a0_7) := (blk_cell BK280.out 7).trans rfl; have hfz126_0 := blk_frozen BK280.out 0; have hfz126_1 := blk_frozen BK280.out 1; have hfz126_2 := blk_frozen BK280.out 2; have hfz126_3 := blk_frozen BK280.out 3; have hfz126_4 := blk_frozen BK280.out 4; have hfz126_5 := blk_frozen BK280.out 5; have hfz126_6 := blk_frozen BK280.out 6; have hfz126_7 := blk_frozen BK280.out 7) | (go_at_call 31; (with_reducible refine (config_Bound.calls k a0_0 a0_1 a0_2 a0_3 a0_4 a0_5 a0_6 a0_7 t290 _ A104.out).mono ?_); rintro e w127 ⟨rfl, hb⟩; have n0_ := Aside0.mk (blk_below (g := gb280) kA hb); have n1_ := Aside0.mk (blk_below (g := gb286) kA hb); have n2_ := Aside0.mk (blk_below (g := gb287) kA hb); have n3_ := Aside0.mk (below_step bA hb); clear BK280 BK286 BK287 HB; have BK280 := n0_; have BK286 := n1_; have BK287 := n2_; have HB := n3_; clear n0_ n1_ n2_ n3_; (try clear hb); have hcz128_0 : w127.cell? ⟨gb280, 0, none⟩ = some (.int .i64 a0_0) := (blk_cell BK280.out 0).trans rfl; have hcz128_1 : w127.cell? ⟨gb280, 1, none⟩ = some (.int .i64 a0_1) := (blk_cell BK280.out 1).trans rfl; have hcz128_2 : w127.cell? ⟨gb280, 2, none⟩ = some (.int .i64 a0_2) := (blk_cell BK280.out 2).trans rfl; have hcz128_3 : w127.cell? ⟨gb280, 3, none⟩ = some (.int .i64 a0_3) := (blk_cell BK280.out 3).trans rfl; have hcz128_4 : w127.cell? ⟨gb280, 4, none⟩ = some (.int .i64 a0_4) := (blk_cell BK280.out 4).trans rfl; have hcz128_5 : w127.cell? ⟨gb280, 5, none⟩ = some (.int .i64 a0_5) := (blk_cell BK280.out 5).trans rfl; have hcz128_6 : w127.cell? ⟨gb280, 6, none⟩ = some (.int .i64 a0_6) := (blk_cell BK280.out 6).trans rfl; have hcz128_7 : w127.cell? ⟨gb280, 7, none⟩ = some (.int .i64 a0_7) := (blk_cell BK280.out 7).trans rfl; have hfz128_0 := blk_frozen BK280.out 0; have hfz128_1 := blk_frozen BK280.out 1; have hfz128_2 := blk_frozen BK280.out 2; have hfz128_3 := blk_frozen BK280.out 3; have hfz128_4 := blk_frozen BK280.out 4; have hfz128_5 := blk_frozen BK280.out 5; have hfz128_6 := blk_frozen BK280.out 6; have hfz128_7 := blk_frozen BK280.out 7) | (go_at_call 33; (with_reducible refine (config_Most.calls k a0_0 a0_1 a0_2 a0_3 a0_4 a0_5 a0_6 a0_7 t291 _ A106.out).mono ?_); rintro e w129 ⟨rfl, hb⟩; have n0_ := Aside0.mk (blk_below (g := gb280) kA hb); have n1_ := Aside0.mk (blk_below (g := gb286) kA hb); have n2_ := Aside0.mk (blk_below (g := gb287) kA hb); have n3_ := Aside0.mk (below_step bA hb); clear BK280 BK286 BK287 HB; have BK280 := n0_; have BK286 := n1_; have BK287 := n2_; have HB := n3_; clear n0_ n1_ n2_ n3_; (try clear hb); have hcz130_0 : w129.cell? ⟨gb280, 0, none⟩ = some (.int .i64 a0_0) := (blk_cell BK280.out 0).trans rfl; have hcz130_1 : w129.cell? ⟨gb280, 1, none⟩ = some (.int .i64 a0_1) := (blk_cell BK280.out 1).trans rfl; have hcz130_2 : w129.cell? ⟨gb280, 2, none⟩ = some (.int .i64 a0_2) := (blk_cell BK280.out 2).trans rfl; have hcz130_3 : w129.cell? ⟨gb280, 3, none⟩ = some (.int .i64 a0_3) := (blk_cell BK280.out 3).trans rfl; have hcz130_4 : w129.cell? ⟨gb280, 4, none⟩ = some (.int .i64 a0_4) := (blk_cell BK280.out 4).trans rfl; have hcz130_5 : w129.cell? ⟨gb280, 5, none⟩ = some (.int .i64 a0_5) := (blk_cell BK280.out 5).trans rfl; have hcz130_6 : w129.cell? ⟨gb280, 6, none⟩ = some (.int .i64 a0_6) := (blk_cell BK280.out 6).trans rfl; have hcz130_7 : w129.cell? ⟨gb280, 7, none⟩ = some (.int .i64 a0_7) := (blk_cell BK280.out 7).trans rfl; have hfz130_0 := blk_frozen BK280.out 0; have hfz130_1 := blk_frozen BK280.out 1; have hfz130_2 := blk_frozen BK280.out 2; have hfz130_3 := blk_frozen BK280.out 3; have hfz130_4 := blk_frozen BK280.out 4; have hfz130_5 := blk_frozen BK280.out 5; have hfz130_6 := blk_frozen BK280.out 6; have hfz130_7 := blk_frozen BK280.out 7) | (go_at_call 35; (with_reducible refine (config_Floor.calls k a0_0 a0_1 a0_2 a0_3 a0_4 a0_5 a0_6 a0_7 t292 _ A108.out).mono ?_); rintro e w131 ⟨rfl, hb⟩; have n0_ := Aside0.mk (blk_below (g := gb280) kA hb); have n1_ := Aside0.mk (blk_below (g := gb286) kA hb); have n2_ := Aside0.mk (blk_below (g := gb287) kA hb); have n3_ := Aside0.mk (below_step bA hb); clear BK280 BK286 BK287 HB; have BK280 := n0_; have BK286 := n1_; have BK287 := n2_; have HB := n3_; clear n0_ n1_ n2_ n3_; (try clear hb); have hcz132_0 : w131.cell? ⟨gb286, 0, none⟩ = some (.int .u64 t282) := (blk_cell BK286.out 0).trans rfl; have hcz132_1 : w131.cell? ⟨gb286, 1, none⟩ = some (.int .u64 t283) := (blk_cell BK286.out 1).trans rfl; have hfz132_0 := blk_frozen BK286.out 0; have hfz132_1 := blk_frozen BK286.out 1; have hcz133_0 : w131.cell? ⟨gb287, 0, none⟩ = some (.int .u64 t284) := (blk_cell BK287.out 0).trans rfl; have hcz133_1 : w131.cell? ⟨gb287, 1, none⟩ = some (.int .u64 t285) := (blk_cell BK287.out 1).trans rfl; have hfz133_0 := blk_frozen BK287.out 0; have hfz133_1 := blk_frozen BK287.out 1))
        go_ret
        exact ⟨by first | rfl | (simp [errW_none, errW_some] <;> rfl) | (simp [*, errW_none, errW_some] <;> rfl), bA⟩
       ·rw [if_neg c110] at H
        exact absurd H (by simp)
      ·rw [if_neg c109] at H
       exact absurd H (by simp)
     ·rw [if_neg c107] at H
      exact absurd H (by simp)
    ·rw [if_neg c105] at H
     exact absurd H (by simp)
   ·rw [if_neg c103] at H
    exact absurd H (by simp)
  ·replace c101 := Bool.eq_false_iff.mpr c101
   subst c101
   have H1 : (none) = some r := by rw [if_neg (show ¬ (false = true) by decide)] at H; exact H
   clear H
   have H := H1
   clear H1
   exact absurd H (by simp)

end Go.Proofs.Ytcolhngdhlamkaa.GCL
