-- Laid by a program of this session (wip/tools/pr.py): contracts and pure functions; Lean checks it.
import Derived.Test.YtcolhngdhlamkaaGCTx0
import Derived.Test.YtcolhngdhlamkaaGCTx1
import Derived.Test.YtcolhngdhlamkaaGCTx9
import Derived.Test.YtcolhngdhlamkaaGCTx13
import Derived.Test.YtcolhngdhlamkaaGCTx14
namespace Go.Proofs.Ytcolhngdhlamkaa.GCT
open Go.RowKit Go.Proofs.YtcolhngdhlamkaaW.PrintWords Go.Proofs.YtcolhngdhlamkaaW.PrintLast Go.Proofs.YtcolhngdhlamkaaW.PrintMore
attribute [local go_sem] max2_int min2_int max_two min_two max_three min_three max_four min_four   -- for this text's walks alone
set_option linter.unusedVariables false
set_option linter.unusedSimpArgs false

attribute [local go_sem high] eqA25
/-! ### backfilllaw11_ConfigTells: function 5 -/
def backfilllaw11_ConfigTells.f (k : Nat) (a0_0 : Int) (a0_1 : Int) (a0_2 : Int) (a0_3 : Int) (a0_4 : Int) (a0_5 : Int) (a0_6 : Int) (a0_7 : Int) : Option (Bool) := (backfilllaw11_shown.f k).bind fun t371 => ((config_Off.f k a0_0 a0_1 a0_2 a0_3 a0_4 a0_5 a0_6 a0_7).bind fun bt372 => ((backfillref11_Off.f k a0_0 a0_1 a0_2 a0_3 a0_4 a0_5 a0_6 a0_7).bind fun bt378 => (if t371 = true then ((config_Check.f k a0_0 a0_1 a0_2 a0_3 a0_4 a0_5 a0_6 a0_7).bind fun t384 => ((backfillref11_Check.f k a0_0 a0_1 a0_2 a0_3 a0_4 a0_5 a0_6 a0_7).bind fun t385 => (if t384 = t385 then ((config_Lead.f k a0_0 a0_1 a0_2 a0_3 a0_4 a0_5 a0_6 a0_7).bind fun t386 => ((backfillref11_Lead.f k a0_0 a0_1 a0_2 a0_3 a0_4 a0_5 a0_6 a0_7).bind fun t387 => (if t386 = t387 then ((config_Bound.f k a0_0 a0_1 a0_2 a0_3 a0_4 a0_5 a0_6 a0_7).bind fun t388 => ((backfillref11_Bound.f k a0_0 a0_1 a0_2 a0_3 a0_4 a0_5 a0_6 a0_7).bind fun t389 => (if t388 = t389 then ((config_Most.f k a0_0 a0_1 a0_2 a0_3 a0_4 a0_5 a0_6 a0_7).bind fun t390 => ((backfillref11_Most.f k a0_0 a0_1 a0_2 a0_3 a0_4 a0_5 a0_6 a0_7).bind fun t391 => (if t390 = t391 then ((config_Floor.f k a0_0 a0_1 a0_2 a0_3 a0_4 a0_5 a0_6 a0_7).bind fun t392 => ((backfillref11_Floor.f k a0_0 a0_1 a0_2 a0_3 a0_4 a0_5 a0_6 a0_7).bind fun t393 => (if t392 = t393 then ((backfilllaw11_num.f bt378.1 bt378.2.1).bind fun bt394 => (if (bt372.1 == bt394.1 && (bt372.2.1 == bt394.2)) = true then ((backfilllaw11_num.f bt378.2.2.1 bt378.2.2.2).bind fun bt396 => (some (bt372.2.2.1 == bt396.1 && (bt372.2.2.2 == bt396.2)))) else (none))) else (none)))) else (none)))) else (none)))) else (none)))) else (none)))) else (none))))
theorem backfilllaw11_ConfigTells.mono : ∀ a0 a1 a2 a3 a4 a5 a6 a7 k, LeO (backfilllaw11_ConfigTells.f k a0 a1 a2 a3 a4 a5 a6 a7) (backfilllaw11_ConfigTells.f (k + 1) a0 a1 a2 a3 a4 a5 a6 a7) := by
 intro a0 a1 a2 a3 a4 a5 a6 a7 k
 unfold backfilllaw11_ConfigTells.f
 repeat' first
   | (with_reducible exact backfilllaw11_shown.mono _)
   | (with_reducible exact backfillref11_Bound.mono _ _ _ _ _ _ _ _ _)
   | (with_reducible exact backfillref11_Check.mono _ _ _ _ _ _ _ _ _)
   | (with_reducible exact backfillref11_Floor.mono _ _ _ _ _ _ _ _ _)
   | (with_reducible exact backfillref11_Lead.mono _ _ _ _ _ _ _ _ _)
   | (with_reducible exact backfillref11_Most.mono _ _ _ _ _ _ _ _ _)
   | (with_reducible exact backfillref11_Off.mono _ _ _ _ _ _ _ _ _)
   | (with_reducible exact config_Bound.mono _ _ _ _ _ _ _ _ _)
   | (with_reducible exact config_Check.mono _ _ _ _ _ _ _ _ _)
   | (with_reducible exact config_Floor.mono _ _ _ _ _ _ _ _ _)
   | (with_reducible exact config_Lead.mono _ _ _ _ _ _ _ _ _)
   | (with_reducible exact config_Most.mono _ _ _ _ _ _ _ _ _)
   | (with_reducible exact config_Off.mono _ _ _ _ _ _ _ _ _)
   | (with_reducible exact LeO.refl _)
   | (with_reducible exact LeO.none _)
   | (with_reducible refine LeO.ite ?_ ?_)
   | (with_reducible refine LeO.bind ?_ (fun _ => ?_))
   | exact backfilllaw11_shown.mono _
   | exact backfillref11_Bound.mono _ _ _ _ _ _ _ _ _
   | exact backfillref11_Check.mono _ _ _ _ _ _ _ _ _
   | exact backfillref11_Floor.mono _ _ _ _ _ _ _ _ _
   | exact backfillref11_Lead.mono _ _ _ _ _ _ _ _ _
   | exact backfillref11_Most.mono _ _ _ _ _ _ _ _ _
   | exact backfillref11_Off.mono _ _ _ _ _ _ _ _ _
   | exact config_Bound.mono _ _ _ _ _ _ _ _ _
   | exact config_Check.mono _ _ _ _ _ _ _ _ _
   | exact config_Floor.mono _ _ _ _ _ _ _ _ _
   | exact config_Lead.mono _ _ _ _ _ _ _ _ _
   | exact config_Most.mono _ _ _ _ _ _ _ _ _
   | exact config_Off.mono _ _ _ _ _ _ _ _ _
   | exact LeO.none _
   | refine LeO.ite ?_ ?_
   | refine LeO.bind ?_ (fun _ => ?_)
def backfilllaw11_ConfigTells.T4 : Bool × List (List Nat × List Nat) := (true, [([], []), ([0], [0]), ([1], [1]), ([2, 1, 1], [1, 2]), ([1], [1]), ([4, 3, 1], [1, 4]), ([3, 5, 1], [1, 3, 5]), ([1, 6], [1, 6]), ([7, 5], [7]), ([8], [8]), ([9, 8, 8], [8, 9]), ([8], [8]), ([11, 10, 8], [8, 11]), ([10, 12, 8], [8, 10, 12]), ([8, 13], [8, 13]), ([14, 12], [14]), ([15], [15]), ([16, 15, 15], [15, 16]), ([15], [15]), ([18, 17, 15], [15, 18]), ([17, 19, 15], [15, 17, 19]), ([15, 20], [15, 20]), ([21, 19], [21]), ([22], [22]), ([23, 22, 22], [22, 23]), ([22], [22]), ([25, 24, 22], [22, 25]), ([24, 26, 22], [22, 24, 26]), ([22, 27], [22, 27]), ([28, 26], [28]), ([29], [29]), ([30, 29, 29], [29, 30]), ([29], [29]), ([32, 31, 29], [29, 32]), ([31, 33, 29], [29, 31, 33]), ([29, 34], [29, 34]), ([35, 33], [35]), ([36], [36]), ([36], [36]), ([38, 36, 36], [36, 38]), ([37, 39, 36], [36, 37, 39]), ([36, 40], [36, 40]), ([41, 39], [41]), ([42], [42]), ([42], [42]), ([44, 42, 42], [42, 44]), ([43, 45, 42], [42, 43, 45]), ([42, 46], [42, 46]), ([47, 45, 0, 1, 2, 3, 4, 5, 6, 7, 8, 9, 10, 11, 12, 13, 14, 15, 16, 17, 18, 19, 20, 21, 22, 23, 24, 25, 26, 27, 28, 29, 30, 31, 32, 33, 34, 35, 36, 37, 38, 39, 40, 41, 42, 43, 44, 45, 46, 47], [47])])
def backfilllaw11_ConfigTells.B4 : List Nat := [0, 1, 3, 7, 3, 31, 63, 127, 255, 511, 1023, 511, 4095, 8191, 16383, 32767, 65535, 131071, 65535, 524287, 1048575, 2097151, 4194303, 8388607, 16777215, 8388607, 67108863, 134217727, 268435455, 536870911, 1073741823, 2147483647, 1073741823, 8589934591, 17179869183, 34359738367, 68719476735, 137438953471, 137438953471, 412316860415, 1099511627775, 2199023255551, 4398046511103, 8796093022207, 8796093022207, 26388279066623, 70368744177663, 140737488355327, 281474976710655]
theorem backfilllaw11_ConfigTells.tab4 : rtab .any (opsOf Try.f5 4) = backfilllaw11_ConfigTells.T4 := by kernel_rfl
theorem backfilllaw11_ConfigTells.bits4 : waitsOk backfilllaw11_ConfigTells.T4.2 backfilllaw11_ConfigTells.B4 = true := by kernel_rfl
set_option maxHeartbeats 8000000 in
set_option maxRecDepth 100000 in
theorem backfilllaw11_ConfigTells.calls (k : Nat) (a0_0 : Int) (a0_1 : Int) (a0_2 : Int) (a0_3 : Int) (a0_4 : Int) (a0_5 : Int) (a0_6 : Int) (a0_7 : Int) (r : Bool) (w : World) (h : backfilllaw11_ConfigTells.f k a0_0 a0_1 a0_2 a0_3 a0_4 a0_5 a0_6 a0_7 = some r) :
  Calls Try.prog 5 #[.agg #[.int .i64 a0_0, .int .i64 a0_1, .int .i64 a0_2, .int .i64 a0_3, .int .i64 a0_4, .int .i64 a0_5, .int .i64 a0_6, .int .i64 a0_7]] w fun e w' => e = .returned (.bool r) ∧ Below w.heap.size w w' := by
 have hu39 := Try.underlying39
 have hu25 := Try.underlying25
 have hu28 := Try.underlying28
 have HB := Aside0.mk (Below.refl w.heap.size w)
 have H : ((backfilllaw11_shown.f k).bind fun t371 => ((config_Off.f k a0_0 a0_1 a0_2 a0_3 a0_4 a0_5 a0_6 a0_7).bind fun bt372 => ((backfillref11_Off.f k a0_0 a0_1 a0_2 a0_3 a0_4 a0_5 a0_6 a0_7).bind fun bt378 => (if t371 = true then ((config_Check.f k a0_0 a0_1 a0_2 a0_3 a0_4 a0_5 a0_6 a0_7).bind fun t384 => ((backfillref11_Check.f k a0_0 a0_1 a0_2 a0_3 a0_4 a0_5 a0_6 a0_7).bind fun t385 => (if t384 = t385 then ((config_Lead.f k a0_0 a0_1 a0_2 a0_3 a0_4 a0_5 a0_6 a0_7).bind fun t386 => ((backfillref11_Lead.f k a0_0 a0_1 a0_2 a0_3 a0_4 a0_5 a0_6 a0_7).bind fun t387 => (if t386 = t387 then ((config_Bound.f k a0_0 a0_1 a0_2 a0_3 a0_4 a0_5 a0_6 a0_7).bind fun t388 => ((backfillref11_Bound.f k a0_0 a0_1 a0_2 a0_3 a0_4 a0_5 a0_6 a0_7).bind fun t389 => (if t388 = t389 then ((config_Most.f k a0_0 a0_1 a0_2 a0_3 a0_4 a0_5 a0_6 a0_7).bind fun t390 => ((backfillref11_Most.f k a0_0 a0_1 a0_2 a0_3 a0_4 a0_5 a0_6 a0_7).bind fun t391 => (if t390 = t391 then ((config_Floor.f k a0_0 a0_1 a0_2 a0_3 a0_4 a0_5 a0_6 a0_7).bind fun t392 => ((backfillref11_Floor.f k a0_0 a0_1 a0_2 a0_3 a0_4 a0_5 a0_6 a0_7).bind fun t393 => (if t392 = t393 then ((backfilllaw11_num.f bt378.1 bt378.2.1).bind fun bt394 => (if (bt372.1 == bt394.1 && (bt372.2.1 == bt394.2)) = true then ((backfilllaw11_num.f bt378.2.2.1 bt378.2.2.2).bind fun bt396 => (some (bt372.2.2.1 == bt396.1 && (bt372.2.2.2 == bt396.2)))) else (none))) else (none)))) else (none)))) else (none)))) else (none)))) else (none)))) else (none))))) = some r := h
 clear h; replace H := Option.bind_eq_some_iff.mp H; obtain ⟨t371, A20, H⟩ := H; replace H : ((config_Off.f k a0_0 a0_1 a0_2 a0_3 a0_4 a0_5 a0_6 a0_7).bind fun bt372 => ((backfillref11_Off.f k a0_0 a0_1 a0_2 a0_3 a0_4 a0_5 a0_6 a0_7).bind fun bt378 => (if t371 = true then ((config_Check.f k a0_0 a0_1 a0_2 a0_3 a0_4 a0_5 a0_6 a0_7).bind fun t384 => ((backfillref11_Check.f k a0_0 a0_1 a0_2 a0_3 a0_4 a0_5 a0_6 a0_7).bind fun t385 => (if t384 = t385 then ((config_Lead.f k a0_0 a0_1 a0_2 a0_3 a0_4 a0_5 a0_6 a0_7).bind fun t386 => ((backfillref11_Lead.f k a0_0 a0_1 a0_2 a0_3 a0_4 a0_5 a0_6 a0_7).bind fun t387 => (if t386 = t387 then ((config_Bound.f k a0_0 a0_1 a0_2 a0_3 a0_4 a0_5 a0_6 a0_7).bind fun t388 => ((backfillref11_Bound.f k a0_0 a0_1 a0_2 a0_3 a0_4 a0_5 a0_6 a0_7).bind fun t389 => (if t388 = t389 then ((config_Most.f k a0_0 a0_1 a0_2 a0_3 a0_4 a0_5 a0_6 a0_7).bind fun t390 => ((backfillref11_Most.f k a0_0 a0_1 a0_2 a0_3 a0_4 a0_5 a0_6 a0_7).bind fun t391 => (if t390 = t391 then ((config_Floor.f k a0_0 a0_1 a0_2 a0_3 a0_4 a0_5 a0_6 a0_7).bind fun t392 => ((backfillref11_Floor.f k a0_0 a0_1 a0_2 a0_3 a0_4 a0_5 a0_6 a0_7).bind fun t393 => (if t392 = t393 then ((backfilllaw11_num.f bt378.1 bt378.2.1).bind fun bt394 => (if (bt372.1 == bt394.1 && (bt372.2.1 == bt394.2)) = true then ((backfilllaw11_num.f bt378.2.2.1 bt378.2.2.2).bind fun bt396 => (some (bt372.2.2.1 == bt396.1 && (bt372.2.2.2 == bt396.2)))) else (none))) else (none)))) else (none)))) else (none)))) else (none)))) else (none)))) else (none)))) = some r := H; have A2 := Aside0.mk A20; clear A20; replace H := Option.bind_eq_some_iff.mp H; obtain ⟨⟨t372, t373, t374, t375⟩, A30, H⟩ := H; replace H : ((backfillref11_Off.f k a0_0 a0_1 a0_2 a0_3 a0_4 a0_5 a0_6 a0_7).bind fun bt378 => (if t371 = true then ((config_Check.f k a0_0 a0_1 a0_2 a0_3 a0_4 a0_5 a0_6 a0_7).bind fun t384 => ((backfillref11_Check.f k a0_0 a0_1 a0_2 a0_3 a0_4 a0_5 a0_6 a0_7).bind fun t385 => (if t384 = t385 then ((config_Lead.f k a0_0 a0_1 a0_2 a0_3 a0_4 a0_5 a0_6 a0_7).bind fun t386 => ((backfillref11_Lead.f k a0_0 a0_1 a0_2 a0_3 a0_4 a0_5 a0_6 a0_7).bind fun t387 => (if t386 = t387 then ((config_Bound.f k a0_0 a0_1 a0_2 a0_3 a0_4 a0_5 a0_6 a0_7).bind fun t388 => ((backfillref11_Bound.f k a0_0 a0_1 a0_2 a0_3 a0_4 a0_5 a0_6 a0_7).bind fun t389 => (if t388 = t389 then ((config_Most.f k a0_0 a0_1 a0_2 a0_3 a0_4 a0_5 a0_6 a0_7).bind fun t390 => ((backfillref11_Most.f k a0_0 a0_1 a0_2 a0_3 a0_4 a0_5 a0_6 a0_7).bind fun t391 => (if t390 = t391 then ((config_Floor.f k a0_0 a0_1 a0_2 a0_3 a0_4 a0_5 a0_6 a0_7).bind fun t392 => ((backfillref11_Floor.f k a0_0 a0_1 a0_2 a0_3 a0_4 a0_5 a0_6 a0_7).bind fun t393 => (if t392 = t393 then ((backfilllaw11_num.f bt378.1 bt378.2.1).bind fun bt394 => (if (t372 == bt394.1 && (t373 == bt394.2)) = true then ((backfilllaw11_num.f bt378.2.2.1 bt378.2.2.2).bind fun bt396 => (some (t374 == bt396.1 && (t375 == bt396.2)))) else (none))) else (none)))) else (none)))) else (none)))) else (none)))) else (none)))) else (none))) = some r := H; have A3 := Aside0.mk A30; clear A30; replace H := Option.bind_eq_some_iff.mp H; obtain ⟨⟨t378, t379, t380, t381⟩, A40, H⟩ := H; replace H : (if t371 = true then ((config_Check.f k a0_0 a0_1 a0_2 a0_3 a0_4 a0_5 a0_6 a0_7).bind fun t384 => ((backfillref11_Check.f k a0_0 a0_1 a0_2 a0_3 a0_4 a0_5 a0_6 a0_7).bind fun t385 => (if t384 = t385 then ((config_Lead.f k a0_0 a0_1 a0_2 a0_3 a0_4 a0_5 a0_6 a0_7).bind fun t386 => ((backfillref11_Lead.f k a0_0 a0_1 a0_2 a0_3 a0_4 a0_5 a0_6 a0_7).bind fun t387 => (if t386 = t387 then ((config_Bound.f k a0_0 a0_1 a0_2 a0_3 a0_4 a0_5 a0_6 a0_7).bind fun t388 => ((backfillref11_Bound.f k a0_0 a0_1 a0_2 a0_3 a0_4 a0_5 a0_6 a0_7).bind fun t389 => (if t388 = t389 then ((config_Most.f k a0_0 a0_1 a0_2 a0_3 a0_4 a0_5 a0_6 a0_7).bind fun t390 => ((backfillref11_Most.f k a0_0 a0_1 a0_2 a0_3 a0_4 a0_5 a0_6 a0_7).bind fun t391 => (if t390 = t391 then ((config_Floor.f k a0_0 a0_1 a0_2 a0_3 a0_4 a0_5 a0_6 a0_7).bind fun t392 => ((backfillref11_Floor.f k a0_0 a0_1 a0_2 a0_3 a0_4 a0_5 a0_6 a0_7).bind fun t393 => (if t392 = t393 then ((backfilllaw11_num.f t378 t379).bind fun bt394 => (if (t372 == bt394.1 && (t373 == bt394.2)) = true then ((backfilllaw11_num.f t380 t381).bind fun bt396 => (some (t374 == bt396.1 && (t375 == bt396.2)))) else (none))) else (none)))) else (none)))) else (none)))) else (none)))) else (none)))) else (none)) = some r := H
 have A4 := Aside0.mk A40; clear A40
 by_cases c5 : t371 = true
 ·subst c5
  have H1 : ((config_Check.f k a0_0 a0_1 a0_2 a0_3 a0_4 a0_5 a0_6 a0_7).bind fun t384 => ((backfillref11_Check.f k a0_0 a0_1 a0_2 a0_3 a0_4 a0_5 a0_6 a0_7).bind fun t385 => (if t384 = t385 then ((config_Lead.f k a0_0 a0_1 a0_2 a0_3 a0_4 a0_5 a0_6 a0_7).bind fun t386 => ((backfillref11_Lead.f k a0_0 a0_1 a0_2 a0_3 a0_4 a0_5 a0_6 a0_7).bind fun t387 => (if t386 = t387 then ((config_Bound.f k a0_0 a0_1 a0_2 a0_3 a0_4 a0_5 a0_6 a0_7).bind fun t388 => ((backfillref11_Bound.f k a0_0 a0_1 a0_2 a0_3 a0_4 a0_5 a0_6 a0_7).bind fun t389 => (if t388 = t389 then ((config_Most.f k a0_0 a0_1 a0_2 a0_3 a0_4 a0_5 a0_6 a0_7).bind fun t390 => ((backfillref11_Most.f k a0_0 a0_1 a0_2 a0_3 a0_4 a0_5 a0_6 a0_7).bind fun t391 => (if t390 = t391 then ((config_Floor.f k a0_0 a0_1 a0_2 a0_3 a0_4 a0_5 a0_6 a0_7).bind fun t392 => ((backfillref11_Floor.f k a0_0 a0_1 a0_2 a0_3 a0_4 a0_5 a0_6 a0_7).bind fun t393 => (if t392 = t393 then ((backfilllaw11_num.f t378 t379).bind fun bt394 => (if (t372 == bt394.1 && (t373 == bt394.2)) = true then ((backfilllaw11_num.f t380 t381).bind fun bt396 => (some (t374 == bt396.1 && (t375 == bt396.2)))) else (none))) else (none)))) else (none)))) else (none)))) else (none)))) else (none)))) = some r := by rw [if_pos rfl] at H; exact H
  clear H
  have H := H1
  clear H1; replace H := Option.bind_eq_some_iff.mp H; obtain ⟨t384, A60, H⟩ := H; replace H : ((backfillref11_Check.f k a0_0 a0_1 a0_2 a0_3 a0_4 a0_5 a0_6 a0_7).bind fun t385 => (if t384 = t385 then ((config_Lead.f k a0_0 a0_1 a0_2 a0_3 a0_4 a0_5 a0_6 a0_7).bind fun t386 => ((backfillref11_Lead.f k a0_0 a0_1 a0_2 a0_3 a0_4 a0_5 a0_6 a0_7).bind fun t387 => (if t386 = t387 then ((config_Bound.f k a0_0 a0_1 a0_2 a0_3 a0_4 a0_5 a0_6 a0_7).bind fun t388 => ((backfillref11_Bound.f k a0_0 a0_1 a0_2 a0_3 a0_4 a0_5 a0_6 a0_7).bind fun t389 => (if t388 = t389 then ((config_Most.f k a0_0 a0_1 a0_2 a0_3 a0_4 a0_5 a0_6 a0_7).bind fun t390 => ((backfillref11_Most.f k a0_0 a0_1 a0_2 a0_3 a0_4 a0_5 a0_6 a0_7).bind fun t391 => (if t390 = t391 then ((config_Floor.f k a0_0 a0_1 a0_2 a0_3 a0_4 a0_5 a0_6 a0_7).bind fun t392 => ((backfillref11_Floor.f k a0_0 a0_1 a0_2 a0_3 a0_4 a0_5 a0_6 a0_7).bind fun t393 => (if t392 = t393 then ((backfilllaw11_num.f t378 t379).bind fun bt394 => (if (t372 == bt394.1 && (t373 == bt394.2)) = true then ((backfilllaw11_num.f t380 t381).bind fun bt396 => (some (t374 == bt396.1 && (t375 == bt396.2)))) else (none))) else (none)))) else (none)))) else (none)))) else (none)))) else (none))) = some r := H; have A6 := Aside0.mk A60; clear A60; replace H := Option.bind_eq_some_iff.mp H; obtain ⟨t385, A70, H⟩ := H; replace H : (if t384 = t385 then ((config_Lead.f k a0_0 a0_1 a0_2 a0_3 a0_4 a0_5 a0_6 a0_7).bind fun t386 => ((backfillref11_Lead.f k a0_0 a0_1 a0_2 a0_3 a0_4 a0_5 a0_6 a0_7).bind fun t387 => (if t386 = t387 then ((config_Bound.f k a0_0 a0_1 a0_2 a0_3 a0_4 a0_5 a0_6 a0_7).bind fun t388 => ((backfillref11_Bound.f k a0_0 a0_1 a0_2 a0_3 a0_4 a0_5 a0_6 a0_7).bind fun t389 => (if t388 = t389 then ((config_Most.f k a0_0 a0_1 a0_2 a0_3 a0_4 a0_5 a0_6 a0_7).bind fun t390 => ((backfillref11_Most.f k a0_0 a0_1 a0_2 a0_3 a0_4 a0_5 a0_6 a0_7).bind fun t391 => (if t390 = t391 then ((config_Floor.f k a0_0 a0_1 a0_2 a0_3 a0_4 a0_5 a0_6 a0_7).bind fun t392 => ((backfillref11_Floor.f k a0_0 a0_1 a0_2 a0_3 a0_4 a0_5 a0_6 a0_7).bind fun t393 => (if t392 = t393 then ((backfilllaw11_num.f t378 t379).bind fun bt394 => (if (t372 == bt394.1 && (t373 == bt394.2)) = true then ((backfilllaw11_num.f t380 t381).bind fun bt396 => (some (t374 == bt396.1 && (t375 == bt396.2)))) else (none))) else (none)))) else (none)))) else (none)))) else (none)))) else (none)) = some r := H; have A7 := Aside0.mk A70; clear A70
  by_cases c8 : t384 = t385
  ·rw [if_pos c8] at H
   have c8b0 : (t384 == t385) = true := beq_iff_eq.mpr c8
   have c8b1 : (t384 != t385) = false := bne_eq_false_iff_eq.mpr c8
   clear c8; replace H := Option.bind_eq_some_iff.mp H; obtain ⟨t386, A90, H⟩ := H; replace H : ((backfillref11_Lead.f k a0_0 a0_1 a0_2 a0_3 a0_4 a0_5 a0_6 a0_7).bind fun t387 => (if t386 = t387 then ((config_Bound.f k a0_0 a0_1 a0_2 a0_3 a0_4 a0_5 a0_6 a0_7).bind fun t388 => ((backfillref11_Bound.f k a0_0 a0_1 a0_2 a0_3 a0_4 a0_5 a0_6 a0_7).bind fun t389 => (if t388 = t389 then ((config_Most.f k a0_0 a0_1 a0_2 a0_3 a0_4 a0_5 a0_6 a0_7).bind fun t390 => ((backfillref11_Most.f k a0_0 a0_1 a0_2 a0_3 a0_4 a0_5 a0_6 a0_7).bind fun t391 => (if t390 = t391 then ((config_Floor.f k a0_0 a0_1 a0_2 a0_3 a0_4 a0_5 a0_6 a0_7).bind fun t392 => ((backfillref11_Floor.f k a0_0 a0_1 a0_2 a0_3 a0_4 a0_5 a0_6 a0_7).bind fun t393 => (if t392 = t393 then ((backfilllaw11_num.f t378 t379).bind fun bt394 => (if (t372 == bt394.1 && (t373 == bt394.2)) = true then ((backfilllaw11_num.f t380 t381).bind fun bt396 => (some (t374 == bt396.1 && (t375 == bt396.2)))) else (none))) else (none)))) else (none)))) else (none)))) else (none))) = some r := H; have A9 := Aside0.mk A90; clear A90; replace H := Option.bind_eq_some_iff.mp H; obtain ⟨t387, A100, H⟩ := H; replace H : (if t386 = t387 then ((config_Bound.f k a0_0 a0_1 a0_2 a0_3 a0_4 a0_5 a0_6 a0_7).bind fun t388 => ((backfillref11_Bound.f k a0_0 a0_1 a0_2 a0_3 a0_4 a0_5 a0_6 a0_7).bind fun t389 => (if t388 = t389 then ((config_Most.f k a0_0 a0_1 a0_2 a0_3 a0_4 a0_5 a0_6 a0_7).bind fun t390 => ((backfillref11_Most.f k a0_0 a0_1 a0_2 a0_3 a0_4 a0_5 a0_6 a0_7).bind fun t391 => (if t390 = t391 then ((config_Floor.f k a0_0 a0_1 a0_2 a0_3 a0_4 a0_5 a0_6 a0_7).bind fun t392 => ((backfillref11_Floor.f k a0_0 a0_1 a0_2 a0_3 a0_4 a0_5 a0_6 a0_7).bind fun t393 => (if t392 = t393 then ((backfilllaw11_num.f t378 t379).bind fun bt394 => (if (t372 == bt394.1 && (t373 == bt394.2)) = true then ((backfilllaw11_num.f t380 t381).bind fun bt396 => (some (t374 == bt396.1 && (t375 == bt396.2)))) else (none))) else (none)))) else (none)))) else (none)))) else (none)) = some r := H; have A10 := Aside0.mk A100; clear A100
   by_cases c11 : t386 = t387
   ·rw [if_pos c11] at H
    have c11b0 : (t386 == t387) = true := beq_iff_eq.mpr c11
    have c11b1 : (t386 != t387) = false := bne_eq_false_iff_eq.mpr c11
    clear c11; replace H := Option.bind_eq_some_iff.mp H; obtain ⟨t388, A120, H⟩ := H; replace H : ((backfillref11_Bound.f k a0_0 a0_1 a0_2 a0_3 a0_4 a0_5 a0_6 a0_7).bind fun t389 => (if t388 = t389 then ((config_Most.f k a0_0 a0_1 a0_2 a0_3 a0_4 a0_5 a0_6 a0_7).bind fun t390 => ((backfillref11_Most.f k a0_0 a0_1 a0_2 a0_3 a0_4 a0_5 a0_6 a0_7).bind fun t391 => (if t390 = t391 then ((config_Floor.f k a0_0 a0_1 a0_2 a0_3 a0_4 a0_5 a0_6 a0_7).bind fun t392 => ((backfillref11_Floor.f k a0_0 a0_1 a0_2 a0_3 a0_4 a0_5 a0_6 a0_7).bind fun t393 => (if t392 = t393 then ((backfilllaw11_num.f t378 t379).bind fun bt394 => (if (t372 == bt394.1 && (t373 == bt394.2)) = true then ((backfilllaw11_num.f t380 t381).bind fun bt396 => (some (t374 == bt396.1 && (t375 == bt396.2)))) else (none))) else (none)))) else (none)))) else (none))) = some r := H; have A12 := Aside0.mk A120; clear A120; replace H := Option.bind_eq_some_iff.mp H; obtain ⟨t389, A130, H⟩ := H; replace H : (if t388 = t389 then ((config_Most.f k a0_0 a0_1 a0_2 a0_3 a0_4 a0_5 a0_6 a0_7).bind fun t390 => ((backfillref11_Most.f k a0_0 a0_1 a0_2 a0_3 a0_4 a0_5 a0_6 a0_7).bind fun t391 => (if t390 = t391 then ((config_Floor.f k a0_0 a0_1 a0_2 a0_3 a0_4 a0_5 a0_6 a0_7).bind fun t392 => ((backfillref11_Floor.f k a0_0 a0_1 a0_2 a0_3 a0_4 a0_5 a0_6 a0_7).bind fun t393 => (if t392 = t393 then ((backfilllaw11_num.f t378 t379).bind fun bt394 => (if (t372 == bt394.1 && (t373 == bt394.2)) = true then ((backfilllaw11_num.f t380 t381).bind fun bt396 => (some (t374 == bt396.1 && (t375 == bt396.2)))) else (none))) else (none)))) else (none)))) else (none)) = some r := H; have A13 := Aside0.mk A130; clear A130
    by_cases c14 : t388 = t389
    ·rw [if_pos c14] at H
     have c14b0 : (t388 == t389) = true := beq_iff_eq.mpr c14
     have c14b1 : (t388 != t389) = false := bne_eq_false_iff_eq.mpr c14
     clear c14; replace H := Option.bind_eq_some_iff.mp H; obtain ⟨t390, A150, H⟩ := H; replace H : ((backfillref11_Most.f k a0_0 a0_1 a0_2 a0_3 a0_4 a0_5 a0_6 a0_7).bind fun t391 => (if t390 = t391 then ((config_Floor.f k a0_0 a0_1 a0_2 a0_3 a0_4 a0_5 a0_6 a0_7).bind fun t392 => ((backfillref11_Floor.f k a0_0 a0_1 a0_2 a0_3 a0_4 a0_5 a0_6 a0_7).bind fun t393 => (if t392 = t393 then ((backfilllaw11_num.f t378 t379).bind fun bt394 => (if (t372 == bt394.1 && (t373 == bt394.2)) = true then ((backfilllaw11_num.f t380 t381).bind fun bt396 => (some (t374 == bt396.1 && (t375 == bt396.2)))) else (none))) else (none)))) else (none))) = some r := H; have A15 := Aside0.mk A150; clear A150; replace H := Option.bind_eq_some_iff.mp H; obtain ⟨t391, A160, H⟩ := H; replace H : (if t390 = t391 then ((config_Floor.f k a0_0 a0_1 a0_2 a0_3 a0_4 a0_5 a0_6 a0_7).bind fun t392 => ((backfillref11_Floor.f k a0_0 a0_1 a0_2 a0_3 a0_4 a0_5 a0_6 a0_7).bind fun t393 => (if t392 = t393 then ((backfilllaw11_num.f t378 t379).bind fun bt394 => (if (t372 == bt394.1 && (t373 == bt394.2)) = true then ((backfilllaw11_num.f t380 t381).bind fun bt396 => (some (t374 == bt396.1 && (t375 == bt396.2)))) else (none))) else (none)))) else (none)) = some r := H; have A16 := Aside0.mk A160; clear A160
     by_cases c17 : t390 = t391
     ·rw [if_pos c17] at H
      have c17b0 : (t390 == t391) = true := beq_iff_eq.mpr c17
      have c17b1 : (t390 != t391) = false := bne_eq_false_iff_eq.mpr c17
      clear c17; replace H := Option.bind_eq_some_iff.mp H; obtain ⟨t392, A180, H⟩ := H; replace H : ((backfillref11_Floor.f k a0_0 a0_1 a0_2 a0_3 a0_4 a0_5 a0_6 a0_7).bind fun t393 => (if t392 = t393 then ((backfilllaw11_num.f t378 t379).bind fun bt394 => (if (t372 == bt394.1 && (t373 == bt394.2)) = true then ((backfilllaw11_num.f t380 t381).bind fun bt396 => (some (t374 == bt396.1 && (t375 == bt396.2)))) else (none))) else (none))) = some r := H; have A18 := Aside0.mk A180; clear A180; replace H := Option.bind_eq_some_iff.mp H; obtain ⟨t393, A190, H⟩ := H; replace H : (if t392 = t393 then ((backfilllaw11_num.f t378 t379).bind fun bt394 => (if (t372 == bt394.1 && (t373 == bt394.2)) = true then ((backfilllaw11_num.f t380 t381).bind fun bt396 => (some (t374 == bt396.1 && (t375 == bt396.2)))) else (none))) else (none)) = some r := H; have A19 := Aside0.mk A190; clear A190
      by_cases c20 : t392 = t393
      ·rw [if_pos c20] at H
       have c20b0 : (t392 == t393) = true := beq_iff_eq.mpr c20
       have c20b1 : (t392 != t393) = false := bne_eq_false_iff_eq.mpr c20
       clear c20; replace H := Option.bind_eq_some_iff.mp H; obtain ⟨⟨t394, t395⟩, A210, H⟩ := H; replace H : (if (t372 == t394 && (t373 == t395)) = true then ((backfilllaw11_num.f t380 t381).bind fun bt396 => (some (t374 == bt396.1 && (t375 == bt396.2)))) else (none)) = some r := H; have A21 := Aside0.mk A210; clear A210
       by_cases c22 : (t372 == t394 && (t373 == t395)) = true
       ·rw [if_pos c22] at H
        have c22b0 : (t372 == t394 && (t373 == t395)) = true := c22
        (try (have c22b1 : decide (t372 = t394 && (t373 == t395)) = true := by simpa using c22))
        (try (have c22b2 : (t372 == t394 && (t373 == t395)) = true := by simpa using c22))
        clear c22; replace H := Option.bind_eq_some_iff.mp H; obtain ⟨⟨t396, t397⟩, A230, H⟩ := H; replace H : (some (t374 == t396 && (t375 == t397))) = some r := H; have A23 := Aside0.mk A230; clear A230
        obtain rfl := Option.some.inj H
        go_enter Try.func5, Try.ntmps5
        try go_wp2_with (first | ((with_reducible refine gate_dst (N := 1) rfl ?_); refine bxA 1 #[.int .i64 a0_0, .int .i64 a0_1, .int .i64 a0_2, .int .i64 a0_3, .int .i64 a0_4, .int .i64 a0_5, .int .i64 a0_6, .int .i64 a0_7] 39 ?_; intro gb370 hg w24 hbox hb; have n0_ := Aside0.mk (below_step bA hb); have n1_ := Aside0.mk (hbox); have n2_ := Aside0.mk (gwA hg bA); have n3_ := Aside0.mk (gwA hg bA); clear HB; have HB := n0_; have BK370 := n1_; have GW370 := n2_; have GE370 := n3_; clear n0_ n1_ n2_ n3_ hb hbox hg) | ((with_reducible refine gate_callee (f := 24) rfl ?_); refine goesL_ (some 8) rfl rfl Try.func24 (by kernel_rfl) rfl #[] rfl aA ?_; (with_reducible refine (backfilllaw11_shown.calls k  true _ A2.out).mono ?_); rintro e w25 ⟨rfl, hb⟩; refine ⟨_, rfl, ?_⟩; have n0_ := Aside0.mk (blk_below (g := gb370) kA hb); have n1_ := Aside0.mk (below_step bA hb); clear BK370 HB; have BK370 := n0_; have HB := n1_; clear n0_ n1_; (try clear hb); have hcz26_0 : w25.cell? ⟨gb370, 0, none⟩ = some (.int .i64 a0_0) := (blk_cell BK370.out 0).trans rfl; have hcz26_1 : w25.cell? ⟨gb370, 1, none⟩ = some (.int .i64 a0_1) := (blk_cell BK370.out 1).trans rfl; have hcz26_2 : w25.cell? ⟨gb370, 2, none⟩ = some (.int .i64 a0_2) := (blk_cell BK370.out 2).trans rfl; have hcz26_3 : w25.cell? ⟨gb370, 3, none⟩ = some (.int .i64 a0_3) := (blk_cell BK370.out 3).trans rfl; have hcz26_4 : w25.cell? ⟨gb370, 4, none⟩ = some (.int .i64 a0_4) := (blk_cell BK370.out 4).trans rfl; have hcz26_5 : w25.cell? ⟨gb370, 5, none⟩ = some (.int .i64 a0_5) := (blk_cell BK370.out 5).trans rfl; have hcz26_6 : w25.cell? ⟨gb370, 6, none⟩ = some (.int .i64 a0_6) := (blk_cell BK370.out 6).trans rfl; have hcz26_7 : w25.cell? ⟨gb370, 7, none⟩ = some (.int .i64 a0_7) := (blk_cell BK370.out 7).trans rfl; have hfz26_0 := blk_frozen BK370.out 0; have hfz26_1 := blk_frozen BK370.out 1; have hfz26_2 := blk_frozen BK370.out 2; have hfz26_3 := blk_frozen BK370.out 3; have hfz26_4 := blk_frozen BK370.out 4; have hfz26_5 := blk_frozen BK370.out 5; have hfz26_6 := blk_frozen BK370.out 6; have hfz26_7 := blk_frozen BK370.out 7) | ((with_reducible refine gate_callee (f := 25) rfl ?_); refine goesL_ (some 11) rfl rfl Try.func25 (by kernel_rfl) rfl #[.agg #[.int .i64 a0_0, .int .i64 a0_1, .int .i64 a0_2, .int .i64 a0_3, .int .i64 a0_4, .int .i64 a0_5, .int .i64 a0_6, .int .i64 a0_7]] rfl aA ?_; (with_reducible refine (config_Off.calls k a0_0 a0_1 a0_2 a0_3 a0_4 a0_5 a0_6 a0_7 t372 t373 t374 t375 _ A3.out).mono ?_); rintro e w27 ⟨rfl, hb⟩; refine ⟨_, rfl, ?_⟩; have n0_ := Aside0.mk (blk_below (g := gb370) kA hb); have n1_ := Aside0.mk (below_step bA hb); clear BK370 HB; have BK370 := n0_; have HB := n1_; clear n0_ n1_; (try clear hb)) | ((with_reducible refine gate_dst (N := 4) rfl ?_); refine bxA 4 #[.int .u64 0, .int .u64 0] 25 ?_; intro gb376 hg w28 hbox hb; have n0_ := Aside0.mk (blk_below (g := gb370) kA hb); have n1_ := Aside0.mk (below_step bA hb); have n2_ := Aside0.mk (hbox); have n3_ := Aside0.mk (gwA hg bA); have n4_ := Aside0.mk (gwA hg bA); have n5_ := Aside0.mk (neA (g := gb370) hg kA); have n6_ := Aside0.mk (neB (g := gb370) hg kA); clear BK370 HB; have BK370 := n0_; have HB := n1_; have BK376 := n2_; have GW376 := n3_; have GE376 := n4_; have NB370_376 := n5_; have NB376_370 := n6_; clear n0_ n1_ n2_ n3_ n4_ n5_ n6_ hb hbox hg) | ((with_reducible refine gate_dst (N := 5) rfl ?_); refine bxA 5 #[.int .u64 0, .int .u64 0] 25 ?_; intro gb377 hg w29 hbox hb; have n0_ := Aside0.mk (blk_below (g := gb370) kA hb); have n1_ := Aside0.mk (blk_below (g := gb376) kA hb); have n2_ := Aside0.mk (below_step bA hb); have n3_ := Aside0.mk (hbox); have n4_ := Aside0.mk (gwA hg bA); have n5_ := Aside0.mk (gwA hg bA); have n6_ := Aside0.mk (neA (g := gb370) hg kA); have n7_ := Aside0.mk (neB (g := gb370) hg kA); have n8_ := Aside0.mk (neA (g := gb376) hg kA); have n9_ := Aside0.mk (neB (g := gb376) hg kA); clear BK370 BK376 HB; have BK370 := n0_; have BK376 := n1_; have HB := n2_; have BK377 := n3_; have GW377 := n4_; have GE377 := n5_; have NB370_377 := n6_; have NB377_370 := n7_; have NB376_377 := n8_; have NB377_376 := n9_; clear n0_ n1_ n2_ n3_ n4_ n5_ n6_ n7_ n8_ n9_ hb hbox hg; have hnb30 := NB376_370.out; have hnc30 := NB370_376.out; have hnb31 := NB376_377.out; have hnc31 := NB377_376.out; have hcz32_0 : w29.cell? ⟨gb376, 0, none⟩ = some (.int .u64 0) := (blk_cell BK376.out 0).trans rfl; have hcz32_1 : w29.cell? ⟨gb376, 1, none⟩ = some (.int .u64 0) := (blk_cell BK376.out 1).trans rfl; have hfz32_0 := blk_frozen BK376.out 0; have hfz32_1 := blk_frozen BK376.out 1; have hnb33 := NB377_370.out; have hnc33 := NB370_377.out; have hcz34_0 : w29.cell? ⟨gb377, 0, none⟩ = some (.int .u64 0) := (blk_cell BK377.out 0).trans rfl; have hcz34_1 : w29.cell? ⟨gb377, 1, none⟩ = some (.int .u64 0) := (blk_cell BK377.out 1).trans rfl; have hfz34_0 := blk_frozen BK377.out 0; have hfz34_1 := blk_frozen BK377.out 1; have hcz35_0 : w29.cell? ⟨gb370, 0, none⟩ = some (.int .i64 a0_0) := (blk_cell BK370.out 0).trans rfl; have hcz35_1 : w29.cell? ⟨gb370, 1, none⟩ = some (.int .i64 a0_1) := (blk_cell BK370.out 1).trans rfl; have hcz35_2 : w29.cell? ⟨gb370, 2, none⟩ = some (.int .i64 a0_2) := (blk_cell BK370.out 2).trans rfl; have hcz35_3 : w29.cell? ⟨gb370, 3, none⟩ = some (.int .i64 a0_3) := (blk_cell BK370.out 3).trans rfl; have hcz35_4 : w29.cell? ⟨gb370, 4, none⟩ = some (.int .i64 a0_4) := (blk_cell BK370.out 4).trans rfl; have hcz35_5 : w29.cell? ⟨gb370, 5, none⟩ = some (.int .i64 a0_5) := (blk_cell BK370.out 5).trans rfl; have hcz35_6 : w29.cell? ⟨gb370, 6, none⟩ = some (.int .i64 a0_6) := (blk_cell BK370.out 6).trans rfl; have hcz35_7 : w29.cell? ⟨gb370, 7, none⟩ = some (.int .i64 a0_7) := (blk_cell BK370.out 7).trans rfl; have hfz35_0 := blk_frozen BK370.out 0; have hfz35_1 := blk_frozen BK370.out 1; have hfz35_2 := blk_frozen BK370.out 2; have hfz35_3 := blk_frozen BK370.out 3; have hfz35_4 := blk_frozen BK370.out 4; have hfz35_5 := blk_frozen BK370.out 5; have hfz35_6 := blk_frozen BK370.out 6; have hfz35_7 := blk_frozen BK370.out 7) | ((with_reducible refine gate_callee (f := 26) rfl ?_); refine goesL_ (some 16) rfl rfl Try.func26 (by kernel_rfl) rfl #[.agg #[.int .i64 a0_0, .int .i64 a0_1, .int .i64 a0_2, .int .i64 a0_3, .int .i64 a0_4, .int .i64 a0_5, .int .i64 a0_6, .int .i64 a0_7]] rfl aA ?_; (with_reducible refine (backfillref11_Off.calls k a0_0 a0_1 a0_2 a0_3 a0_4 a0_5 a0_6 a0_7 t378 t379 t380 t381 _ A4.out).mono ?_); rintro e w36 ⟨rfl, hb⟩; refine ⟨_, rfl, ?_⟩; have n0_ := Aside0.mk (blk_below (g := gb370) (o := .cells #[.int .i64 a0_0, .int .i64 a0_1, .int .i64 a0_2, .int .i64 a0_3, .int .i64 a0_4, .int .i64 a0_5, .int .i64 a0_6, .int .i64 a0_7] 39 (0, 0)) (by (with_reducible repeat (first | refine blk_drewN ?_ _ | refine blk_drew ?_ | refine blk_alloc ?_ _)); refine blk_far ?_ NB370_377.out _; (with_reducible repeat (first | refine blk_drewN ?_ _ | refine blk_drew ?_ | refine blk_alloc ?_ _)); refine blk_far ?_ NB370_377.out _; (with_reducible repeat (first | refine blk_drewN ?_ _ | refine blk_drew ?_ | refine blk_alloc ?_ _)); refine blk_far ?_ NB370_376.out _; (with_reducible repeat (first | refine blk_drewN ?_ _ | refine blk_drew ?_ | refine blk_alloc ?_ _)); refine blk_far ?_ NB370_376.out _; exact kA) hb); have n1_ := Aside0.mk (blk_below (g := gb376) (o := .cells #[.int .u64 t372, .int .u64 t373] 25 (0, 0)) (by (with_reducible repeat (first | refine blk_drewN ?_ _ | refine blk_drew ?_ | refine blk_alloc ?_ _)); refine blk_far ?_ NB376_377.out _; (with_reducible repeat (first | refine blk_drewN ?_ _ | refine blk_drew ?_ | refine blk_alloc ?_ _)); refine blk_far ?_ NB376_377.out _; (with_reducible repeat (first | refine blk_drewN ?_ _ | refine blk_drew ?_ | refine blk_alloc ?_ _)); refine blk_put (cs := #[.int .u64 t372, .int .u64 0]) ?_ 1 _ rfl; (with_reducible repeat (first | refine blk_drewN ?_ _ | refine blk_drew ?_ | refine blk_alloc ?_ _)); refine blk_put (cs := #[.int .u64 0, .int .u64 0]) ?_ 0 _ rfl; exact kA) hb); have n2_ := Aside0.mk (blk_below (g := gb377) (o := .cells #[.int .u64 t374, .int .u64 t375] 25 (0, 0)) (by (with_reducible repeat (first | refine blk_drewN ?_ _ | refine blk_drew ?_ | refine blk_alloc ?_ _)); refine blk_put (cs := #[.int .u64 t374, .int .u64 0]) ?_ 1 _ rfl; (with_reducible repeat (first | refine blk_drewN ?_ _ | refine blk_drew ?_ | refine blk_alloc ?_ _)); refine blk_put (cs := #[.int .u64 0, .int .u64 0]) ?_ 0 _ rfl; (with_reducible repeat (first | refine blk_drewN ?_ _ | refine blk_drew ?_ | refine blk_alloc ?_ _)); refine blk_far ?_ NB377_376.out _; (with_reducible repeat (first | refine blk_drewN ?_ _ | refine blk_drew ?_ | refine blk_alloc ?_ _)); refine blk_far ?_ NB377_376.out _; exact kA) hb); have n3_ := Aside0.mk (below_step bA hb); clear BK370 BK376 BK377 HB; have BK370 := n0_; have BK376 := n1_; have BK377 := n2_; have HB := n3_; clear n0_ n1_ n2_ n3_; (try clear hb)) | ((with_reducible refine gate_dst (N := 6) rfl ?_); refine bxA 6 #[.int .u64 0, .int .u64 0] 28 ?_; intro gb382 hg w37 hbox hb; have n0_ := Aside0.mk (blk_below (g := gb370) kA hb); have n1_ := Aside0.mk (blk_below (g := gb376) kA hb); have n2_ := Aside0.mk (blk_below (g := gb377) kA hb); have n3_ := Aside0.mk (below_step bA hb); have n4_ := Aside0.mk (hbox); have n5_ := Aside0.mk (gwA hg bA); have n6_ := Aside0.mk (gwA hg bA); have n7_ := Aside0.mk (neA (g := gb370) hg kA); have n8_ := Aside0.mk (neB (g := gb370) hg kA); have n9_ := Aside0.mk (neA (g := gb376) hg kA); have n10_ := Aside0.mk (neB (g := gb376) hg kA); have n11_ := Aside0.mk (neA (g := gb377) hg kA); have n12_ := Aside0.mk (neB (g := gb377) hg kA); clear BK370 BK376 BK377 HB; have BK370 := n0_; have BK376 := n1_; have BK377 := n2_; have HB := n3_; have BK382 := n4_; have GW382 := n5_; have GE382 := n6_; have NB370_382 := n7_; have NB382_370 := n8_; have NB376_382 := n9_; have NB382_376 := n10_; have NB377_382 := n11_; have NB382_377 := n12_; clear n0_ n1_ n2_ n3_ n4_ n5_ n6_ n7_ n8_ n9_ n10_ n11_ n12_ hb hbox hg) | ((with_reducible refine gate_dst (N := 7) rfl ?_); refine bxA 7 #[.int .u64 0, .int .u64 0] 28 ?_; intro gb383 hg w38 hbox hb; have n0_ := Aside0.mk (blk_below (g := gb370) kA hb); have n1_ := Aside0.mk (blk_below (g := gb376) kA hb); have n2_ := Aside0.mk (blk_below (g := gb377) kA hb); have n3_ := Aside0.mk (blk_below (g := gb382) kA hb); have n4_ := Aside0.mk (below_step bA hb); have n5_ := Aside0.mk (hbox); have n6_ := Aside0.mk (gwA hg bA); have n7_ := Aside0.mk (gwA hg bA); have n8_ := Aside0.mk (neA (g := gb370) hg kA); have n9_ := Aside0.mk (neB (g := gb370) hg kA); have n10_ := Aside0.mk (neA (g := gb376) hg kA); have n11_ := Aside0.mk (neB (g := gb376) hg kA); have n12_ := Aside0.mk (neA (g := gb377) hg kA); have n13_ := Aside0.mk (neB (g := gb377) hg kA); have n14_ := Aside0.mk (neA (g := gb382) hg kA); have n15_ := Aside0.mk (neB (g := gb382) hg kA); clear BK370 BK376 BK377 BK382 HB; have BK370 := n0_; have BK376 := n1_; have BK377 := n2_; have BK382 := n3_; have HB := n4_; have BK383 := n5_; have GW383 := n6_; have GE383 := n7_; have NB370_383 := n8_; have NB383_370 := n9_; have NB376_383 := n10_; have NB383_376 := n11_; have NB377_383 := n12_; have NB383_377 := n13_; have NB382_383 := n14_; have NB383_382 := n15_; clear n0_ n1_ n2_ n3_ n4_ n5_ n6_ n7_ n8_ n9_ n10_ n11_ n12_ n13_ n14_ n15_ hb hbox hg; have hnb39 := NB382_370.out; have hnc39 := NB370_382.out; have hnb40 := NB382_376.out; have hnc40 := NB376_382.out; have hnb41 := NB382_377.out; have hnc41 := NB377_382.out; have hnb42 := NB382_383.out; have hnc42 := NB383_382.out; have hcz43_0 : w38.cell? ⟨gb382, 0, none⟩ = some (.int .u64 0) := (blk_cell BK382.out 0).trans rfl; have hcz43_1 : w38.cell? ⟨gb382, 1, none⟩ = some (.int .u64 0) := (blk_cell BK382.out 1).trans rfl; have hfz43_0 := blk_frozen BK382.out 0; have hfz43_1 := blk_frozen BK382.out 1; have hnb44 := NB383_370.out; have hnc44 := NB370_383.out; have hnb45 := NB383_376.out; have hnc45 := NB376_383.out; have hnb46 := NB383_377.out; have hnc46 := NB377_383.out; have hcz47_0 : w38.cell? ⟨gb383, 0, none⟩ = some (.int .u64 0) := (blk_cell BK383.out 0).trans rfl; have hcz47_1 : w38.cell? ⟨gb383, 1, none⟩ = some (.int .u64 0) := (blk_cell BK383.out 1).trans rfl; have hfz47_0 := blk_frozen BK383.out 0; have hfz47_1 := blk_frozen BK383.out 1))
        have n0_ : Aside0 (((((w38.setCell ⟨gb382, 0, none⟩ (.int .u64 t378)).setCell ⟨gb382, 1, none⟩ (.int .u64 t379)).setCell ⟨gb383, 0, none⟩ (.int .u64 t380)).setCell ⟨gb383, 1, none⟩ (.int .u64 t381)).heap[gb370]? = some (.cells #[.int .i64 a0_0, .int .i64 a0_1, .int .i64 a0_2, .int .i64 a0_3, .int .i64 a0_4, .int .i64 a0_5, .int .i64 a0_6, .int .i64 a0_7] 39 (0, 0))) := ⟨by (with_reducible repeat (first | refine blk_drewN ?_ _ | refine blk_drew ?_ | refine blk_alloc ?_ _)); refine blk_far ?_ NB370_383.out _; (with_reducible repeat (first | refine blk_drewN ?_ _ | refine blk_drew ?_ | refine blk_alloc ?_ _)); refine blk_far ?_ NB370_383.out _; (with_reducible repeat (first | refine blk_drewN ?_ _ | refine blk_drew ?_ | refine blk_alloc ?_ _)); refine blk_far ?_ NB370_382.out _; (with_reducible repeat (first | refine blk_drewN ?_ _ | refine blk_drew ?_ | refine blk_alloc ?_ _)); refine blk_far ?_ NB370_382.out _; exact kA⟩
        have n1_ : Aside0 (((((w38.setCell ⟨gb382, 0, none⟩ (.int .u64 t378)).setCell ⟨gb382, 1, none⟩ (.int .u64 t379)).setCell ⟨gb383, 0, none⟩ (.int .u64 t380)).setCell ⟨gb383, 1, none⟩ (.int .u64 t381)).heap[gb376]? = some (.cells #[.int .u64 t372, .int .u64 t373] 25 (0, 0))) := ⟨by (with_reducible repeat (first | refine blk_drewN ?_ _ | refine blk_drew ?_ | refine blk_alloc ?_ _)); refine blk_far ?_ NB376_383.out _; (with_reducible repeat (first | refine blk_drewN ?_ _ | refine blk_drew ?_ | refine blk_alloc ?_ _)); refine blk_far ?_ NB376_383.out _; (with_reducible repeat (first | refine blk_drewN ?_ _ | refine blk_drew ?_ | refine blk_alloc ?_ _)); refine blk_far ?_ NB376_382.out _; (with_reducible repeat (first | refine blk_drewN ?_ _ | refine blk_drew ?_ | refine blk_alloc ?_ _)); refine blk_far ?_ NB376_382.out _; exact kA⟩
        have n2_ : Aside0 (((((w38.setCell ⟨gb382, 0, none⟩ (.int .u64 t378)).setCell ⟨gb382, 1, none⟩ (.int .u64 t379)).setCell ⟨gb383, 0, none⟩ (.int .u64 t380)).setCell ⟨gb383, 1, none⟩ (.int .u64 t381)).heap[gb377]? = some (.cells #[.int .u64 t374, .int .u64 t375] 25 (0, 0))) := ⟨by (with_reducible repeat (first | refine blk_drewN ?_ _ | refine blk_drew ?_ | refine blk_alloc ?_ _)); refine blk_far ?_ NB377_383.out _; (with_reducible repeat (first | refine blk_drewN ?_ _ | refine blk_drew ?_ | refine blk_alloc ?_ _)); refine blk_far ?_ NB377_383.out _; (with_reducible repeat (first | refine blk_drewN ?_ _ | refine blk_drew ?_ | refine blk_alloc ?_ _)); refine blk_far ?_ NB377_382.out _; (with_reducible repeat (first | refine blk_drewN ?_ _ | refine blk_drew ?_ | refine blk_alloc ?_ _)); refine blk_far ?_ NB377_382.out _; exact kA⟩
        have n3_ : Aside0 (((((w38.setCell ⟨gb382, 0, none⟩ (.int .u64 t378)).setCell ⟨gb382, 1, none⟩ (.int .u64 t379)).setCell ⟨gb383, 0, none⟩ (.int .u64 t380)).setCell ⟨gb383, 1, none⟩ (.int .u64 t381)).heap[gb382]? = some (.cells #[.int .u64 t378, .int .u64 t379] 28 (0, 0))) := ⟨by (with_reducible repeat (first | refine blk_drewN ?_ _ | refine blk_drew ?_ | refine blk_alloc ?_ _)); refine blk_far ?_ NB382_383.out _; (with_reducible repeat (first | refine blk_drewN ?_ _ | refine blk_drew ?_ | refine blk_alloc ?_ _)); refine blk_far ?_ NB382_383.out _; (with_reducible repeat (first | refine blk_drewN ?_ _ | refine blk_drew ?_ | refine blk_alloc ?_ _)); refine blk_put (cs := #[.int .u64 t378, .int .u64 0]) ?_ 1 _ rfl; (with_reducible repeat (first | refine blk_drewN ?_ _ | refine blk_drew ?_ | refine blk_alloc ?_ _)); refine blk_put (cs := #[.int .u64 0, .int .u64 0]) ?_ 0 _ rfl; exact kA⟩
        have n4_ : Aside0 (((((w38.setCell ⟨gb382, 0, none⟩ (.int .u64 t378)).setCell ⟨gb382, 1, none⟩ (.int .u64 t379)).setCell ⟨gb383, 0, none⟩ (.int .u64 t380)).setCell ⟨gb383, 1, none⟩ (.int .u64 t381)).heap[gb383]? = some (.cells #[.int .u64 t380, .int .u64 t381] 28 (0, 0))) := ⟨by (with_reducible repeat (first | refine blk_drewN ?_ _ | refine blk_drew ?_ | refine blk_alloc ?_ _)); refine blk_put (cs := #[.int .u64 t380, .int .u64 0]) ?_ 1 _ rfl; (with_reducible repeat (first | refine blk_drewN ?_ _ | refine blk_drew ?_ | refine blk_alloc ?_ _)); refine blk_put (cs := #[.int .u64 0, .int .u64 0]) ?_ 0 _ rfl; (with_reducible repeat (first | refine blk_drewN ?_ _ | refine blk_drew ?_ | refine blk_alloc ?_ _)); refine blk_far ?_ NB383_382.out _; (with_reducible repeat (first | refine blk_drewN ?_ _ | refine blk_drew ?_ | refine blk_alloc ?_ _)); refine blk_far ?_ NB383_382.out _; exact kA⟩
        have n5_ : Aside0 (Below w.heap.size w ((((w38.setCell ⟨gb382, 0, none⟩ (.int .u64 t378)).setCell ⟨gb382, 1, none⟩ (.int .u64 t379)).setCell ⟨gb383, 0, none⟩ (.int .u64 t380)).setCell ⟨gb383, 1, none⟩ (.int .u64 t381))) := ⟨bA⟩
        (try clear BK370); (try clear BK376); (try clear BK377); (try clear BK382); (try clear BK383); (try clear HB)
        generalize ((((w38.setCell ⟨gb382, 0, none⟩ (.int .u64 t378)).setCell ⟨gb382, 1, none⟩ (.int .u64 t379)).setCell ⟨gb383, 0, none⟩ (.int .u64 t380)).setCell ⟨gb383, 1, none⟩ (.int .u64 t381)) = w48 at n0_ n1_ n2_ n3_ n4_ n5_ ⊢
        have BK370 := n0_; have BK376 := n1_; have BK377 := n2_; have BK382 := n3_; have BK383 := n4_; have HB := n5_; clear n0_ n1_ n2_ n3_ n4_ n5_; have n0_ := Aside0.mk (blk_drew BK370.out); have n1_ := Aside0.mk (blk_drew BK376.out); have n2_ := Aside0.mk (blk_drew BK377.out); have n3_ := Aside0.mk (blk_drew BK382.out); have n4_ := Aside0.mk (blk_drew BK383.out); have n5_ := Aside0.mk (below_drew1 HB.out); clear BK370 BK376 BK377 BK382 BK383 HB; have BK370 := n0_; have BK376 := n1_; have BK377 := n2_; have BK382 := n3_; have BK383 := n4_; have HB := n5_; clear n0_ n1_ n2_ n3_ n4_ n5_
        refine start_ (n := 49) (S := fun w' => w'.cell? ⟨gb370, 0, none⟩ = some (.int .i64 a0_0) ∧ w'.cell? ⟨gb370, 1, none⟩ = some (.int .i64 a0_1) ∧ w'.cell? ⟨gb370, 2, none⟩ = some (.int .i64 a0_2) ∧ w'.cell? ⟨gb370, 3, none⟩ = some (.int .i64 a0_3) ∧ w'.cell? ⟨gb370, 4, none⟩ = some (.int .i64 a0_4) ∧ w'.cell? ⟨gb370, 5, none⟩ = some (.int .i64 a0_5) ∧ w'.cell? ⟨gb370, 6, none⟩ = some (.int .i64 a0_6) ∧ w'.cell? ⟨gb370, 7, none⟩ = some (.int .i64 a0_7) ∧ w'.cell? ⟨gb376, 0, none⟩ = some (.int .u64 t372) ∧ w'.cell? ⟨gb376, 1, none⟩ = some (.int .u64 t373) ∧ w'.cell? ⟨gb382, 0, none⟩ = some (.int .u64 t378) ∧ w'.cell? ⟨gb382, 1, none⟩ = some (.int .u64 t379) ∧ w'.cell? ⟨gb377, 0, none⟩ = some (.int .u64 t374) ∧ w'.cell? ⟨gb377, 1, none⟩ = some (.int .u64 t375) ∧ w'.cell? ⟨gb383, 0, none⟩ = some (.int .u64 t380) ∧ w'.cell? ⟨gb383, 1, none⟩ = some (.int .u64 t381)) (ds := []) #[false, false, false, false, false, false, false, false, false, false, false, false, false, false, false, false, false, false, false, false, false, false, false, false, false, false, false, false, false, false, false, false, false, false, false, false, false, false, false, false, false, false, false, false, false, false, false, false, false] (by kernel_rfl) rfl rfl ⟨(blk_cell BK370.out 0).trans rfl, (blk_cell BK370.out 1).trans rfl, (blk_cell BK370.out 2).trans rfl, (blk_cell BK370.out 3).trans rfl, (blk_cell BK370.out 4).trans rfl, (blk_cell BK370.out 5).trans rfl, (blk_cell BK370.out 6).trans rfl, (blk_cell BK370.out 7).trans rfl, (blk_cell BK376.out 0).trans rfl, (blk_cell BK376.out 1).trans rfl, (blk_cell BK382.out 0).trans rfl, (blk_cell BK382.out 1).trans rfl, (blk_cell BK377.out 0).trans rfl, (blk_cell BK377.out 1).trans rfl, (blk_cell BK383.out 0).trans rfl, (blk_cell BK383.out 1).trans rfl⟩ (fun hHeld => ?_); refine with_tabW backfilllaw11_ConfigTells.tab4 backfilllaw11_ConfigTells.bits4 (fun HT_ HW_ => ?_)
        generalize w48.drew = w49 at BK370 BK376 BK377 BK382 BK383 HB hHeld ⊢
        refine pure_ (i := 0) (N := some 19) (v := ?_) (a' := ?_) #[true, false, false, false, false, false, false, false, false, false, false, false, false, false, false, false, false, false, false, false, false, false, false, false, false, false, false, false, false, false, false, false, false, false, false, false, false, false, false, false, false, false, false, false, false, false, false, false, false] rfl rfl (any_of HT_.out (by kernel_rfl)) (fun _ _ _ h => h) (Or.inl ⟨by rfl, ?_⟩) ?_ ?_
        rotate_left
        ·intro w'
         go_simp; with_reducible rfl
        rotate_left
        ·simp only [Act.put, List.setIfInBounds_toArray, List.set_cons_zero, List.set_cons_succ, i64_w, i32_w]
         rfl
        refine pure_ (i := 1) (N := some 20) (v := ?_) (a' := ?_) #[true, true, false, false, false, false, false, false, false, false, false, false, false, false, false, false, false, false, false, false, false, false, false, false, false, false, false, false, false, false, false, false, false, false, false, false, false, false, false, false, false, false, false, false, false, false, false, false, false] rfl rfl (any_of HT_.out (by kernel_rfl)) (fun _ _ _ h => h) (Or.inl ⟨by rfl, ?_⟩) ?_ ?_
        rotate_left
        ·intro w'
         go_simp; with_reducible rfl
        rotate_left
        ·simp only [Act.put, List.setIfInBounds_toArray, List.set_cons_zero, List.set_cons_succ, i64_w, i32_w]
         rfl
        refine take_ (i := 2) (N := some 21) (v := ?_) (a' := ?_) #[true, true, true, false, false, false, false, false, false, false, false, false, false, false, false, false, false, false, false, false, false, false, false, false, false, false, false, false, false, false, false, false, false, false, false, false, false, false, false, false, false, false, false, false, false, false, false, false, false] rfl rfl (take_ofW HT_.out HW_.out (by kernel_rfl)) (fun _ _ _ h => h) (Or.inl ⟨by rfl, ?_⟩) hHeld ?_ ?_
        rotate_left
        ·rintro w' ⟨s0, s1, s2, s3, s4, s5, s6, s7, s8, s9, s10, s11, s12, s13, s14, s15⟩
         go_simp; with_reducible rfl
        rotate_left
        ·simp only [Act.put, List.setIfInBounds_toArray, List.set_cons_zero, List.set_cons_succ, i64_w, i32_w]
         rfl
        refine take_ (i := 4) (N := some 23) (v := ?_) (a' := ?_) #[true, true, true, false, true, false, false, false, false, false, false, false, false, false, false, false, false, false, false, false, false, false, false, false, false, false, false, false, false, false, false, false, false, false, false, false, false, false, false, false, false, false, false, false, false, false, false, false, false] rfl rfl (take_ofW HT_.out HW_.out (by kernel_rfl)) (fun _ _ _ h => h) (Or.inl ⟨by rfl, ?_⟩) hHeld ?_ ?_
        rotate_left
        ·rintro w' ⟨s0, s1, s2, s3, s4, s5, s6, s7, s8, s9, s10, s11, s12, s13, s14, s15⟩
         go_simp; with_reducible rfl
        rotate_left
        ·simp only [Act.put, List.setIfInBounds_toArray, List.set_cons_zero, List.set_cons_succ, i64_w, i32_w]
         rfl
        refine one_ (i := 3) (N := some 22) #[true, true, true, true, true, false, false, false, false, false, false, false, false, false, false, false, false, false, false, false, false, false, false, false, false, false, false, false, false, false, false, false, false, false, false, false, false, false, false, false, false, false, false, false, false, false, false, false, false] rfl rfl (one_of HT_.out (by kernel_rfl)) (by decide) (fun K hK => ?_)
        refine goes_ Try.func27 (by kernel_rfl) rfl #[.agg #[.int .i64 a0_0, .int .i64 a0_1, .int .i64 a0_2, .int .i64 a0_3, .int .i64 a0_4, .int .i64 a0_5, .int .i64 a0_6, .int .i64 a0_7]] (by rfl) rfl rfl aA ?_
        with_reducible refine (config_Check.calls k a0_0 a0_1 a0_2 a0_3 a0_4 a0_5 a0_6 a0_7 t384 _ A6.out).mono ?_
        rintro e w50 ⟨rfl, hb⟩
        refine ⟨_, rfl, ?_⟩; have n0_ := Aside0.mk (blk_below (g := gb370) kA hb); have n1_ := Aside0.mk (blk_below (g := gb376) kA hb); have n2_ := Aside0.mk (blk_below (g := gb377) kA hb); have n3_ := Aside0.mk (blk_below (g := gb382) kA hb); have n4_ := Aside0.mk (blk_below (g := gb383) kA hb); have n5_ := Aside0.mk (below_step bA hb); clear BK370 BK376 BK377 BK382 BK383 HB; have BK370 := n0_; have BK376 := n1_; have BK377 := n2_; have BK382 := n3_; have BK383 := n4_; have HB := n5_; clear n0_ n1_ n2_ n3_ n4_ n5_; (try clear hb)
        refine hK.out _ _ ⟨(blk_cell BK370.out 0).trans rfl, (blk_cell BK370.out 1).trans rfl, (blk_cell BK370.out 2).trans rfl, (blk_cell BK370.out 3).trans rfl, (blk_cell BK370.out 4).trans rfl, (blk_cell BK370.out 5).trans rfl, (blk_cell BK370.out 6).trans rfl, (blk_cell BK370.out 7).trans rfl, (blk_cell BK376.out 0).trans rfl, (blk_cell BK376.out 1).trans rfl, (blk_cell BK382.out 0).trans rfl, (blk_cell BK382.out 1).trans rfl, (blk_cell BK377.out 0).trans rfl, (blk_cell BK377.out 1).trans rfl, (blk_cell BK383.out 0).trans rfl, (blk_cell BK383.out 1).trans rfl⟩ (fun hHeld => ?_)
        clear hK K
        refine norm_ (a' := ?_) ?_ ?_
        rotate_left
        ·show Act.put _ (some 22) _ = _
         simp only [Act.put, List.setIfInBounds_toArray, List.set_cons_zero, List.set_cons_succ, i64_w, i32_w]
         rfl
        refine one_ (i := 5) (N := some 24) #[true, true, true, true, true, true, false, false, false, false, false, false, false, false, false, false, false, false, false, false, false, false, false, false, false, false, false, false, false, false, false, false, false, false, false, false, false, false, false, false, false, false, false, false, false, false, false, false, false] rfl rfl (one_of HT_.out (by kernel_rfl)) (by decide) (fun K hK => ?_)
        refine goes_ Try.func28 (by kernel_rfl) rfl #[.agg #[.int .i64 a0_0, .int .i64 a0_1, .int .i64 a0_2, .int .i64 a0_3, .int .i64 a0_4, .int .i64 a0_5, .int .i64 a0_6, .int .i64 a0_7]] (by rfl) rfl rfl aA ?_
        with_reducible refine (backfillref11_Check.calls k a0_0 a0_1 a0_2 a0_3 a0_4 a0_5 a0_6 a0_7 t385 _ A7.out).mono ?_
        rintro e w51 ⟨rfl, hb⟩
        refine ⟨_, rfl, ?_⟩; have n0_ := Aside0.mk (blk_below (g := gb370) kA hb); have n1_ := Aside0.mk (blk_below (g := gb376) kA hb); have n2_ := Aside0.mk (blk_below (g := gb377) kA hb); have n3_ := Aside0.mk (blk_below (g := gb382) kA hb); have n4_ := Aside0.mk (blk_below (g := gb383) kA hb); have n5_ := Aside0.mk (below_step bA hb); clear BK370 BK376 BK377 BK382 BK383 HB; have BK370 := n0_; have BK376 := n1_; have BK377 := n2_; have BK382 := n3_; have BK383 := n4_; have HB := n5_; clear n0_ n1_ n2_ n3_ n4_ n5_; (try clear hb)
        refine hK.out _ _ ⟨(blk_cell BK370.out 0).trans rfl, (blk_cell BK370.out 1).trans rfl, (blk_cell BK370.out 2).trans rfl, (blk_cell BK370.out 3).trans rfl, (blk_cell BK370.out 4).trans rfl, (blk_cell BK370.out 5).trans rfl, (blk_cell BK370.out 6).trans rfl, (blk_cell BK370.out 7).trans rfl, (blk_cell BK376.out 0).trans rfl, (blk_cell BK376.out 1).trans rfl, (blk_cell BK382.out 0).trans rfl, (blk_cell BK382.out 1).trans rfl, (blk_cell BK377.out 0).trans rfl, (blk_cell BK377.out 1).trans rfl, (blk_cell BK383.out 0).trans rfl, (blk_cell BK383.out 1).trans rfl⟩ (fun hHeld => ?_)
        clear hK K
        refine norm_ (a' := ?_) ?_ ?_
        rotate_left
        ·show Act.put _ (some 24) _ = _
         simp only [Act.put, List.setIfInBounds_toArray, List.set_cons_zero, List.set_cons_succ, i64_w, i32_w]
         rfl
        refine pure_ (i := 6) (N := some 25) (v := ?_) (a' := ?_) #[true, true, true, true, true, true, true, false, false, false, false, false, false, false, false, false, false, false, false, false, false, false, false, false, false, false, false, false, false, false, false, false, false, false, false, false, false, false, false, false, false, false, false, false, false, false, false, false, false] rfl rfl (any_of HT_.out (by kernel_rfl)) (fun _ _ _ h => h) (Or.inl ⟨by rfl, ?_⟩) ?_ ?_
        rotate_left
        ·intro w'
         go_simp; with_reducible rfl
        rotate_left
        ·simp only [Act.put, List.setIfInBounds_toArray, List.set_cons_zero, List.set_cons_succ, i64_w, i32_w]
         rfl
        refine pure_ (i := 7) (N := some 26) (v := ?_) (a' := ?_) #[true, true, true, true, true, true, true, true, false, false, false, false, false, false, false, false, false, false, false, false, false, false, false, false, false, false, false, false, false, false, false, false, false, false, false, false, false, false, false, false, false, false, false, false, false, false, false, false, false] rfl rfl (any_of HT_.out (by kernel_rfl)) (fun _ _ _ h => h) (Or.inl ⟨by rfl, ?_⟩) ?_ ?_
        rotate_left
        ·intro w'
         go_simp; with_reducible rfl
        rotate_left
        ·simp only [Act.put, List.setIfInBounds_toArray, List.set_cons_zero, List.set_cons_succ, i64_w, i32_w]
         rfl
        refine pure_ (i := 8) (N := some 27) (v := ?_) (a' := ?_) #[true, true, true, true, true, true, true, true, true, false, false, false, false, false, false, false, false, false, false, false, false, false, false, false, false, false, false, false, false, false, false, false, false, false, false, false, false, false, false, false, false, false, false, false, false, false, false, false, false] rfl rfl (any_of HT_.out (by kernel_rfl)) (fun _ _ _ h => h) (Or.inl ⟨by rfl, ?_⟩) ?_ ?_
        rotate_left
        ·intro w'
         go_simp; with_reducible rfl
        rotate_left
        ·simp only [Act.put, List.setIfInBounds_toArray, List.set_cons_zero, List.set_cons_succ, i64_w, i32_w]
         rfl
        refine take_ (i := 9) (N := some 28) (v := ?_) (a' := ?_) #[true, true, true, true, true, true, true, true, true, true, false, false, false, false, false, false, false, false, false, false, false, false, false, false, false, false, false, false, false, false, false, false, false, false, false, false, false, false, false, false, false, false, false, false, false, false, false, false, false] rfl rfl (take_ofW HT_.out HW_.out (by kernel_rfl)) (fun _ _ _ h => h) (Or.inl ⟨by rfl, ?_⟩) hHeld ?_ ?_
        rotate_left
        ·rintro w' ⟨s0, s1, s2, s3, s4, s5, s6, s7, s8, s9, s10, s11, s12, s13, s14, s15⟩
         go_simp; with_reducible rfl
        rotate_left
        ·simp only [Act.put, List.setIfInBounds_toArray, List.set_cons_zero, List.set_cons_succ, i64_w, i32_w]
         rfl
        refine take_ (i := 11) (N := some 30) (v := ?_) (a' := ?_) #[true, true, true, true, true, true, true, true, true, true, false, true, false, false, false, false, false, false, false, false, false, false, false, false, false, false, false, false, false, false, false, false, false, false, false, false, false, false, false, false, false, false, false, false, false, false, false, false, false] rfl rfl (take_ofW HT_.out HW_.out (by kernel_rfl)) (fun _ _ _ h => h) (Or.inl ⟨by rfl, ?_⟩) hHeld ?_ ?_
        rotate_left
        ·rintro w' ⟨s0, s1, s2, s3, s4, s5, s6, s7, s8, s9, s10, s11, s12, s13, s14, s15⟩
         go_simp; with_reducible rfl
        rotate_left
        ·simp only [Act.put, List.setIfInBounds_toArray, List.set_cons_zero, List.set_cons_succ, i64_w, i32_w]
         rfl
        refine one_ (i := 10) (N := some 29) #[true, true, true, true, true, true, true, true, true, true, true, true, false, false, false, false, false, false, false, false, false, false, false, false, false, false, false, false, false, false, false, false, false, false, false, false, false, false, false, false, false, false, false, false, false, false, false, false, false] rfl rfl (one_of HT_.out (by kernel_rfl)) (by decide) (fun K hK => ?_)
        refine goes_ Try.func29 (by kernel_rfl) rfl #[.agg #[.int .i64 a0_0, .int .i64 a0_1, .int .i64 a0_2, .int .i64 a0_3, .int .i64 a0_4, .int .i64 a0_5, .int .i64 a0_6, .int .i64 a0_7]] (by rfl) rfl rfl aA ?_
        with_reducible refine (config_Lead.calls k a0_0 a0_1 a0_2 a0_3 a0_4 a0_5 a0_6 a0_7 t386 _ A9.out).mono ?_
        rintro e w52 ⟨rfl, hb⟩
        refine ⟨_, rfl, ?_⟩; have n0_ := Aside0.mk (blk_below (g := gb370) kA hb); have n1_ := Aside0.mk (blk_below (g := gb376) kA hb); have n2_ := Aside0.mk (blk_below (g := gb377) kA hb); have n3_ := Aside0.mk (blk_below (g := gb382) kA hb); have n4_ := Aside0.mk (blk_below (g := gb383) kA hb); have n5_ := Aside0.mk (below_step bA hb); clear BK370 BK376 BK377 BK382 BK383 HB; have BK370 := n0_; have BK376 := n1_; have BK377 := n2_; have BK382 := n3_; have BK383 := n4_; have HB := n5_; clear n0_ n1_ n2_ n3_ n4_ n5_; (try clear hb)
        refine hK.out _ _ ⟨(blk_cell BK370.out 0).trans rfl, (blk_cell BK370.out 1).trans rfl, (blk_cell BK370.out 2).trans rfl, (blk_cell BK370.out 3).trans rfl, (blk_cell BK370.out 4).trans rfl, (blk_cell BK370.out 5).trans rfl, (blk_cell BK370.out 6).trans rfl, (blk_cell BK370.out 7).trans rfl, (blk_cell BK376.out 0).trans rfl, (blk_cell BK376.out 1).trans rfl, (blk_cell BK382.out 0).trans rfl, (blk_cell BK382.out 1).trans rfl, (blk_cell BK377.out 0).trans rfl, (blk_cell BK377.out 1).trans rfl, (blk_cell BK383.out 0).trans rfl, (blk_cell BK383.out 1).trans rfl⟩ (fun hHeld => ?_)
        clear hK K
        refine norm_ (a' := ?_) ?_ ?_
        rotate_left
        ·show Act.put _ (some 29) _ = _
         simp only [Act.put, List.setIfInBounds_toArray, List.set_cons_zero, List.set_cons_succ, i64_w, i32_w]
         rfl
        refine one_ (i := 12) (N := some 31) #[true, true, true, true, true, true, true, true, true, true, true, true, true, false, false, false, false, false, false, false, false, false, false, false, false, false, false, false, false, false, false, false, false, false, false, false, false, false, false, false, false, false, false, false, false, false, false, false, false] rfl rfl (one_of HT_.out (by kernel_rfl)) (by decide) (fun K hK => ?_)
        refine goes_ Try.func30 (by kernel_rfl) rfl #[.agg #[.int .i64 a0_0, .int .i64 a0_1, .int .i64 a0_2, .int .i64 a0_3, .int .i64 a0_4, .int .i64 a0_5, .int .i64 a0_6, .int .i64 a0_7]] (by rfl) rfl rfl aA ?_
        with_reducible refine (backfillref11_Lead.calls k a0_0 a0_1 a0_2 a0_3 a0_4 a0_5 a0_6 a0_7 t387 _ A10.out).mono ?_
        rintro e w53 ⟨rfl, hb⟩
        refine ⟨_, rfl, ?_⟩; have n0_ := Aside0.mk (blk_below (g := gb370) kA hb); have n1_ := Aside0.mk (blk_below (g := gb376) kA hb); have n2_ := Aside0.mk (blk_below (g := gb377) kA hb); have n3_ := Aside0.mk (blk_below (g := gb382) kA hb); have n4_ := Aside0.mk (blk_below (g := gb383) kA hb); have n5_ := Aside0.mk (below_step bA hb); clear BK370 BK376 BK377 BK382 BK383 HB; have BK370 := n0_; have BK376 := n1_; have BK377 := n2_; have BK382 := n3_; have BK383 := n4_; have HB := n5_; clear n0_ n1_ n2_ n3_ n4_ n5_; (try clear hb)
        refine hK.out _ _ ⟨(blk_cell BK370.out 0).trans rfl, (blk_cell BK370.out 1).trans rfl, (blk_cell BK370.out 2).trans rfl, (blk_cell BK370.out 3).trans rfl, (blk_cell BK370.out 4).trans rfl, (blk_cell BK370.out 5).trans rfl, (blk_cell BK370.out 6).trans rfl, (blk_cell BK370.out 7).trans rfl, (blk_cell BK376.out 0).trans rfl, (blk_cell BK376.out 1).trans rfl, (blk_cell BK382.out 0).trans rfl, (blk_cell BK382.out 1).trans rfl, (blk_cell BK377.out 0).trans rfl, (blk_cell BK377.out 1).trans rfl, (blk_cell BK383.out 0).trans rfl, (blk_cell BK383.out 1).trans rfl⟩ (fun hHeld => ?_)
        clear hK K
        refine norm_ (a' := ?_) ?_ ?_
        rotate_left
        ·show Act.put _ (some 31) _ = _
         simp only [Act.put, List.setIfInBounds_toArray, List.set_cons_zero, List.set_cons_succ, i64_w, i32_w]
         rfl
        refine pure_ (i := 13) (N := some 32) (v := ?_) (a' := ?_) #[true, true, true, true, true, true, true, true, true, true, true, true, true, true, false, false, false, false, false, false, false, false, false, false, false, false, false, false, false, false, false, false, false, false, false, false, false, false, false, false, false, false, false, false, false, false, false, false, false] rfl rfl (any_of HT_.out (by kernel_rfl)) (fun _ _ _ h => h) (Or.inl ⟨by rfl, ?_⟩) ?_ ?_
        rotate_left
        ·intro w'
         go_simp; with_reducible rfl
        rotate_left
        ·simp only [Act.put, List.setIfInBounds_toArray, List.set_cons_zero, List.set_cons_succ, i64_w, i32_w]
         rfl
        refine pure_ (i := 14) (N := some 33) (v := ?_) (a' := ?_) #[true, true, true, true, true, true, true, true, true, true, true, true, true, true, true, false, false, false, false, false, false, false, false, false, false, false, false, false, false, false, false, false, false, false, false, false, false, false, false, false, false, false, false, false, false, false, false, false, false] rfl rfl (any_of HT_.out (by kernel_rfl)) (fun _ _ _ h => h) (Or.inl ⟨by rfl, ?_⟩) ?_ ?_
        rotate_left
        ·intro w'
         go_simp; with_reducible rfl
        rotate_left
        ·simp only [Act.put, List.setIfInBounds_toArray, List.set_cons_zero, List.set_cons_succ, i64_w, i32_w]
         rfl
        refine pure_ (i := 15) (N := some 34) (v := ?_) (a' := ?_) #[true, true, true, true, true, true, true, true, true, true, true, true, true, true, true, true, false, false, false, false, false, false, false, false, false, false, false, false, false, false, false, false, false, false, false, false, false, false, false, false, false, false, false, false, false, false, false, false, false] rfl rfl (any_of HT_.out (by kernel_rfl)) (fun _ _ _ h => h) (Or.inl ⟨by rfl, ?_⟩) ?_ ?_
        rotate_left
        ·intro w'
         go_simp; with_reducible rfl
        rotate_left
        ·simp only [Act.put, List.setIfInBounds_toArray, List.set_cons_zero, List.set_cons_succ, i64_w, i32_w]
         rfl
        refine take_ (i := 16) (N := some 35) (v := ?_) (a' := ?_) #[true, true, true, true, true, true, true, true, true, true, true, true, true, true, true, true, true, false, false, false, false, false, false, false, false, false, false, false, false, false, false, false, false, false, false, false, false, false, false, false, false, false, false, false, false, false, false, false, false] rfl rfl (take_ofW HT_.out HW_.out (by kernel_rfl)) (fun _ _ _ h => h) (Or.inl ⟨by rfl, ?_⟩) hHeld ?_ ?_
        rotate_left
        ·rintro w' ⟨s0, s1, s2, s3, s4, s5, s6, s7, s8, s9, s10, s11, s12, s13, s14, s15⟩
         go_simp; with_reducible rfl
        rotate_left
        ·simp only [Act.put, List.setIfInBounds_toArray, List.set_cons_zero, List.set_cons_succ, i64_w, i32_w]
         rfl
        refine take_ (i := 18) (N := some 37) (v := ?_) (a' := ?_) #[true, true, true, true, true, true, true, true, true, true, true, true, true, true, true, true, true, false, true, false, false, false, false, false, false, false, false, false, false, false, false, false, false, false, false, false, false, false, false, false, false, false, false, false, false, false, false, false, false] rfl rfl (take_ofW HT_.out HW_.out (by kernel_rfl)) (fun _ _ _ h => h) (Or.inl ⟨by rfl, ?_⟩) hHeld ?_ ?_
        rotate_left
        ·rintro w' ⟨s0, s1, s2, s3, s4, s5, s6, s7, s8, s9, s10, s11, s12, s13, s14, s15⟩
         go_simp; with_reducible rfl
        rotate_left
        ·simp only [Act.put, List.setIfInBounds_toArray, List.set_cons_zero, List.set_cons_succ, i64_w, i32_w]
         rfl
        refine one_ (i := 17) (N := some 36) #[true, true, true, true, true, true, true, true, true, true, true, true, true, true, true, true, true, true, true, false, false, false, false, false, false, false, false, false, false, false, false, false, false, false, false, false, false, false, false, false, false, false, false, false, false, false, false, false, false] rfl rfl (one_of HT_.out (by kernel_rfl)) (by decide) (fun K hK => ?_)
        refine goes_ Try.func31 (by kernel_rfl) rfl #[.agg #[.int .i64 a0_0, .int .i64 a0_1, .int .i64 a0_2, .int .i64 a0_3, .int .i64 a0_4, .int .i64 a0_5, .int .i64 a0_6, .int .i64 a0_7]] (by rfl) rfl rfl aA ?_
        with_reducible refine (config_Bound.calls k a0_0 a0_1 a0_2 a0_3 a0_4 a0_5 a0_6 a0_7 t388 _ A12.out).mono ?_
        rintro e w54 ⟨rfl, hb⟩
        refine ⟨_, rfl, ?_⟩; have n0_ := Aside0.mk (blk_below (g := gb370) kA hb); have n1_ := Aside0.mk (blk_below (g := gb376) kA hb); have n2_ := Aside0.mk (blk_below (g := gb377) kA hb); have n3_ := Aside0.mk (blk_below (g := gb382) kA hb); have n4_ := Aside0.mk (blk_below (g := gb383) kA hb); have n5_ := Aside0.mk (below_step bA hb); clear BK370 BK376 BK377 BK382 BK383 HB; have BK370 := n0_; have BK376 := n1_; have BK377 := n2_; have BK382 := n3_; have BK383 := n4_; have HB := n5_; clear n0_ n1_ n2_ n3_ n4_ n5_; (try clear hb)
        refine hK.out _ _ ⟨(blk_cell BK370.out 0).trans rfl, (blk_cell BK370.out 1).trans rfl, (blk_cell BK370.out 2).trans rfl, (blk_cell BK370.out 3).trans rfl, (blk_cell BK370.out 4).trans rfl, (blk_cell BK370.out 5).trans rfl, (blk_cell BK370.out 6).trans rfl, (blk_cell BK370.out 7).trans rfl, (blk_cell BK376.out 0).trans rfl, (blk_cell BK376.out 1).trans rfl, (blk_cell BK382.out 0).trans rfl, (blk_cell BK382.out 1).trans rfl, (blk_cell BK377.out 0).trans rfl, (blk_cell BK377.out 1).trans rfl, (blk_cell BK383.out 0).trans rfl, (blk_cell BK383.out 1).trans rfl⟩ (fun hHeld => ?_)
        clear hK K
        refine norm_ (a' := ?_) ?_ ?_
        rotate_left
        ·show Act.put _ (some 36) _ = _
         simp only [Act.put, List.setIfInBounds_toArray, List.set_cons_zero, List.set_cons_succ, i64_w, i32_w]
         rfl
        refine one_ (i := 19) (N := some 38) #[true, true, true, true, true, true, true, true, true, true, true, true, true, true, true, true, true, true, true, true, false, false, false, false, false, false, false, false, false, false, false, false, false, false, false, false, false, false, false, false, false, false, false, false, false, false, false, false, false] rfl rfl (one_of HT_.out (by kernel_rfl)) (by decide) (fun K hK => ?_)
        refine goes_ Try.func32 (by kernel_rfl) rfl #[.agg #[.int .i64 a0_0, .int .i64 a0_1, .int .i64 a0_2, .int .i64 a0_3, .int .i64 a0_4, .int .i64 a0_5, .int .i64 a0_6, .int .i64 a0_7]] (by rfl) rfl rfl aA ?_
        with_reducible refine (backfillref11_Bound.calls k a0_0 a0_1 a0_2 a0_3 a0_4 a0_5 a0_6 a0_7 t389 _ A13.out).mono ?_
        rintro e w55 ⟨rfl, hb⟩
        refine ⟨_, rfl, ?_⟩; have n0_ := Aside0.mk (blk_below (g := gb370) kA hb); have n1_ := Aside0.mk (blk_below (g := gb376) kA hb); have n2_ := Aside0.mk (blk_below (g := gb377) kA hb); have n3_ := Aside0.mk (blk_below (g := gb382) kA hb); have n4_ := Aside0.mk (blk_below (g := gb383) kA hb); have n5_ := Aside0.mk (below_step bA hb); clear BK370 BK376 BK377 BK382 BK383 HB; have BK370 := n0_; have BK376 := n1_; have BK377 := n2_; have BK382 := n3_; have BK383 := n4_; have HB := n5_; clear n0_ n1_ n2_ n3_ n4_ n5_; (try clear hb)
        refine hK.out _ _ ⟨(blk_cell BK370.out 0).trans rfl, (blk_cell BK370.out 1).trans rfl, (blk_cell BK370.out 2).trans rfl, (blk_cell BK370.out 3).trans rfl, (blk_cell BK370.out 4).trans rfl, (blk_cell BK370.out 5).trans rfl, (blk_cell BK370.out 6).trans rfl, (blk_cell BK370.out 7).trans rfl, (blk_cell BK376.out 0).trans rfl, (blk_cell BK376.out 1).trans rfl, (blk_cell BK382.out 0).trans rfl, (blk_cell BK382.out 1).trans rfl, (blk_cell BK377.out 0).trans rfl, (blk_cell BK377.out 1).trans rfl, (blk_cell BK383.out 0).trans rfl, (blk_cell BK383.out 1).trans rfl⟩ (fun hHeld => ?_)
        clear hK K
        refine norm_ (a' := ?_) ?_ ?_
        rotate_left
        ·show Act.put _ (some 38) _ = _
         simp only [Act.put, List.setIfInBounds_toArray, List.set_cons_zero, List.set_cons_succ, i64_w, i32_w]
         rfl
        refine pure_ (i := 20) (N := some 39) (v := ?_) (a' := ?_) #[true, true, true, true, true, true, true, true, true, true, true, true, true, true, true, true, true, true, true, true, true, false, false, false, false, false, false, false, false, false, false, false, false, false, false, false, false, false, false, false, false, false, false, false, false, false, false, false, false] rfl rfl (any_of HT_.out (by kernel_rfl)) (fun _ _ _ h => h) (Or.inl ⟨by rfl, ?_⟩) ?_ ?_
        rotate_left
        ·intro w'
         go_simp; with_reducible rfl
        rotate_left
        ·simp only [Act.put, List.setIfInBounds_toArray, List.set_cons_zero, List.set_cons_succ, i64_w, i32_w]
         rfl
        refine pure_ (i := 21) (N := some 40) (v := ?_) (a' := ?_) #[true, true, true, true, true, true, true, true, true, true, true, true, true, true, true, true, true, true, true, true, true, true, false, false, false, false, false, false, false, false, false, false, false, false, false, false, false, false, false, false, false, false, false, false, false, false, false, false, false] rfl rfl (any_of HT_.out (by kernel_rfl)) (fun _ _ _ h => h) (Or.inl ⟨by rfl, ?_⟩) ?_ ?_
        rotate_left
        ·intro w'
         go_simp; with_reducible rfl
        rotate_left
        ·simp only [Act.put, List.setIfInBounds_toArray, List.set_cons_zero, List.set_cons_succ, i64_w, i32_w]
         rfl
        refine pure_ (i := 22) (N := some 41) (v := ?_) (a' := ?_) #[true, true, true, true, true, true, true, true, true, true, true, true, true, true, true, true, true, true, true, true, true, true, true, false, false, false, false, false, false, false, false, false, false, false, false, false, false, false, false, false, false, false, false, false, false, false, false, false, false] rfl rfl (any_of HT_.out (by kernel_rfl)) (fun _ _ _ h => h) (Or.inl ⟨by rfl, ?_⟩) ?_ ?_
        rotate_left
        ·intro w'
         go_simp; with_reducible rfl
        rotate_left
        ·simp only [Act.put, List.setIfInBounds_toArray, List.set_cons_zero, List.set_cons_succ, i64_w, i32_w]
         rfl
        refine take_ (i := 23) (N := some 42) (v := ?_) (a' := ?_) #[true, true, true, true, true, true, true, true, true, true, true, true, true, true, true, true, true, true, true, true, true, true, true, true, false, false, false, false, false, false, false, false, false, false, false, false, false, false, false, false, false, false, false, false, false, false, false, false, false] rfl rfl (take_ofW HT_.out HW_.out (by kernel_rfl)) (fun _ _ _ h => h) (Or.inl ⟨by rfl, ?_⟩) hHeld ?_ ?_
        rotate_left
        ·rintro w' ⟨s0, s1, s2, s3, s4, s5, s6, s7, s8, s9, s10, s11, s12, s13, s14, s15⟩
         go_simp; with_reducible rfl
        rotate_left
        ·simp only [Act.put, List.setIfInBounds_toArray, List.set_cons_zero, List.set_cons_succ, i64_w, i32_w]
         rfl
        refine take_ (i := 25) (N := some 44) (v := ?_) (a' := ?_) #[true, true, true, true, true, true, true, true, true, true, true, true, true, true, true, true, true, true, true, true, true, true, true, true, false, true, false, false, false, false, false, false, false, false, false, false, false, false, false, false, false, false, false, false, false, false, false, false, false] rfl rfl (take_ofW HT_.out HW_.out (by kernel_rfl)) (fun _ _ _ h => h) (Or.inl ⟨by rfl, ?_⟩) hHeld ?_ ?_
        rotate_left
        ·rintro w' ⟨s0, s1, s2, s3, s4, s5, s6, s7, s8, s9, s10, s11, s12, s13, s14, s15⟩
         go_simp; with_reducible rfl
        rotate_left
        ·simp only [Act.put, List.setIfInBounds_toArray, List.set_cons_zero, List.set_cons_succ, i64_w, i32_w]
         rfl
        refine one_ (i := 24) (N := some 43) #[true, true, true, true, true, true, true, true, true, true, true, true, true, true, true, true, true, true, true, true, true, true, true, true, true, true, false, false, false, false, false, false, false, false, false, false, false, false, false, false, false, false, false, false, false, false, false, false, false] rfl rfl (one_of HT_.out (by kernel_rfl)) (by decide) (fun K hK => ?_)
        refine goes_ Try.func33 (by kernel_rfl) rfl #[.agg #[.int .i64 a0_0, .int .i64 a0_1, .int .i64 a0_2, .int .i64 a0_3, .int .i64 a0_4, .int .i64 a0_5, .int .i64 a0_6, .int .i64 a0_7]] (by rfl) rfl rfl aA ?_
        with_reducible refine (config_Most.calls k a0_0 a0_1 a0_2 a0_3 a0_4 a0_5 a0_6 a0_7 t390 _ A15.out).mono ?_
        rintro e w56 ⟨rfl, hb⟩
        refine ⟨_, rfl, ?_⟩; have n0_ := Aside0.mk (blk_below (g := gb370) kA hb); have n1_ := Aside0.mk (blk_below (g := gb376) kA hb); have n2_ := Aside0.mk (blk_below (g := gb377) kA hb); have n3_ := Aside0.mk (blk_below (g := gb382) kA hb); have n4_ := Aside0.mk (blk_below (g := gb383) kA hb); have n5_ := Aside0.mk (below_step bA hb); clear BK370 BK376 BK377 BK382 BK383 HB; have BK370 := n0_; have BK376 := n1_; have BK377 := n2_; have BK382 := n3_; have BK383 := n4_; have HB := n5_; clear n0_ n1_ n2_ n3_ n4_ n5_; (try clear hb)
        refine hK.out _ _ ⟨(blk_cell BK370.out 0).trans rfl, (blk_cell BK370.out 1).trans rfl, (blk_cell BK370.out 2).trans rfl, (blk_cell BK370.out 3).trans rfl, (blk_cell BK370.out 4).trans rfl, (blk_cell BK370.out 5).trans rfl, (blk_cell BK370.out 6).trans rfl, (blk_cell BK370.out 7).trans rfl, (blk_cell BK376.out 0).trans rfl, (blk_cell BK376.out 1).trans rfl, (blk_cell BK382.out 0).trans rfl, (blk_cell BK382.out 1).trans rfl, (blk_cell BK377.out 0).trans rfl, (blk_cell BK377.out 1).trans rfl, (blk_cell BK383.out 0).trans rfl, (blk_cell BK383.out 1).trans rfl⟩ (fun hHeld => ?_)
        clear hK K
        refine norm_ (a' := ?_) ?_ ?_
        rotate_left
        ·show Act.put _ (some 43) _ = _
         simp only [Act.put, List.setIfInBounds_toArray, List.set_cons_zero, List.set_cons_succ, i64_w, i32_w]
         rfl
        refine one_ (i := 26) (N := some 45) #[true, true, true, true, true, true, true, true, true, true, true, true, true, true, true, true, true, true, true, true, true, true, true, true, true, true, true, false, false, false, false, false, false, false, false, false, false, false, false, false, false, false, false, false, false, false, false, false, false] rfl rfl (one_of HT_.out (by kernel_rfl)) (by decide) (fun K hK => ?_)
        refine goes_ Try.func34 (by kernel_rfl) rfl #[.agg #[.int .i64 a0_0, .int .i64 a0_1, .int .i64 a0_2, .int .i64 a0_3, .int .i64 a0_4, .int .i64 a0_5, .int .i64 a0_6, .int .i64 a0_7]] (by rfl) rfl rfl aA ?_
        with_reducible refine (backfillref11_Most.calls k a0_0 a0_1 a0_2 a0_3 a0_4 a0_5 a0_6 a0_7 t391 _ A16.out).mono ?_
        rintro e w57 ⟨rfl, hb⟩
        refine ⟨_, rfl, ?_⟩; have n0_ := Aside0.mk (blk_below (g := gb370) kA hb); have n1_ := Aside0.mk (blk_below (g := gb376) kA hb); have n2_ := Aside0.mk (blk_below (g := gb377) kA hb); have n3_ := Aside0.mk (blk_below (g := gb382) kA hb); have n4_ := Aside0.mk (blk_below (g := gb383) kA hb); have n5_ := Aside0.mk (below_step bA hb); clear BK370 BK376 BK377 BK382 BK383 HB; have BK370 := n0_; have BK376 := n1_; have BK377 := n2_; have BK382 := n3_; have BK383 := n4_; have HB := n5_; clear n0_ n1_ n2_ n3_ n4_ n5_; (try clear hb)
        refine hK.out _ _ ⟨(blk_cell BK370.out 0).trans rfl, (blk_cell BK370.out 1).trans rfl, (blk_cell BK370.out 2).trans rfl, (blk_cell BK370.out 3).trans rfl, (blk_cell BK370.out 4).trans rfl, (blk_cell BK370.out 5).trans rfl, (blk_cell BK370.out 6).trans rfl, (blk_cell BK370.out 7).trans rfl, (blk_cell BK376.out 0).trans rfl, (blk_cell BK376.out 1).trans rfl, (blk_cell BK382.out 0).trans rfl, (blk_cell BK382.out 1).trans rfl, (blk_cell BK377.out 0).trans rfl, (blk_cell BK377.out 1).trans rfl, (blk_cell BK383.out 0).trans rfl, (blk_cell BK383.out 1).trans rfl⟩ (fun hHeld => ?_)
        clear hK K
        refine norm_ (a' := ?_) ?_ ?_
        rotate_left
        ·show Act.put _ (some 45) _ = _
         simp only [Act.put, List.setIfInBounds_toArray, List.set_cons_zero, List.set_cons_succ, i64_w, i32_w]
         rfl
        refine pure_ (i := 27) (N := some 46) (v := ?_) (a' := ?_) #[true, true, true, true, true, true, true, true, true, true, true, true, true, true, true, true, true, true, true, true, true, true, true, true, true, true, true, true, false, false, false, false, false, false, false, false, false, false, false, false, false, false, false, false, false, false, false, false, false] rfl rfl (any_of HT_.out (by kernel_rfl)) (fun _ _ _ h => h) (Or.inl ⟨by rfl, ?_⟩) ?_ ?_
        rotate_left
        ·intro w'
         go_simp; with_reducible rfl
        rotate_left
        ·simp only [Act.put, List.setIfInBounds_toArray, List.set_cons_zero, List.set_cons_succ, i64_w, i32_w]
         rfl
        refine pure_ (i := 28) (N := some 47) (v := ?_) (a' := ?_) #[true, true, true, true, true, true, true, true, true, true, true, true, true, true, true, true, true, true, true, true, true, true, true, true, true, true, true, true, true, false, false, false, false, false, false, false, false, false, false, false, false, false, false, false, false, false, false, false, false] rfl rfl (any_of HT_.out (by kernel_rfl)) (fun _ _ _ h => h) (Or.inl ⟨by rfl, ?_⟩) ?_ ?_
        rotate_left
        ·intro w'
         go_simp; with_reducible rfl
        rotate_left
        ·simp only [Act.put, List.setIfInBounds_toArray, List.set_cons_zero, List.set_cons_succ, i64_w, i32_w]
         rfl
        refine pure_ (i := 29) (N := some 48) (v := ?_) (a' := ?_) #[true, true, true, true, true, true, true, true, true, true, true, true, true, true, true, true, true, true, true, true, true, true, true, true, true, true, true, true, true, true, false, false, false, false, false, false, false, false, false, false, false, false, false, false, false, false, false, false, false] rfl rfl (any_of HT_.out (by kernel_rfl)) (fun _ _ _ h => h) (Or.inl ⟨by rfl, ?_⟩) ?_ ?_
        rotate_left
        ·intro w'
         go_simp; with_reducible rfl
        rotate_left
        ·simp only [Act.put, List.setIfInBounds_toArray, List.set_cons_zero, List.set_cons_succ, i64_w, i32_w]
         rfl
        refine take_ (i := 30) (N := some 49) (v := ?_) (a' := ?_) #[true, true, true, true, true, true, true, true, true, true, true, true, true, true, true, true, true, true, true, true, true, true, true, true, true, true, true, true, true, true, true, false, false, false, false, false, false, false, false, false, false, false, false, false, false, false, false, false, false] rfl rfl (take_ofW HT_.out HW_.out (by kernel_rfl)) (fun _ _ _ h => h) (Or.inl ⟨by rfl, ?_⟩) hHeld ?_ ?_
        rotate_left
        ·rintro w' ⟨s0, s1, s2, s3, s4, s5, s6, s7, s8, s9, s10, s11, s12, s13, s14, s15⟩
         go_simp; with_reducible rfl
        rotate_left
        ·simp only [Act.put, List.setIfInBounds_toArray, List.set_cons_zero, List.set_cons_succ, i64_w, i32_w]
         rfl
        refine take_ (i := 32) (N := some 51) (v := ?_) (a' := ?_) #[true, true, true, true, true, true, true, true, true, true, true, true, true, true, true, true, true, true, true, true, true, true, true, true, true, true, true, true, true, true, true, false, true, false, false, false, false, false, false, false, false, false, false, false, false, false, false, false, false] rfl rfl (take_ofW HT_.out HW_.out (by kernel_rfl)) (fun _ _ _ h => h) (Or.inl ⟨by rfl, ?_⟩) hHeld ?_ ?_
        rotate_left
        ·rintro w' ⟨s0, s1, s2, s3, s4, s5, s6, s7, s8, s9, s10, s11, s12, s13, s14, s15⟩
         go_simp; with_reducible rfl
        rotate_left
        ·simp only [Act.put, List.setIfInBounds_toArray, List.set_cons_zero, List.set_cons_succ, i64_w, i32_w]
         rfl
        refine one_ (i := 31) (N := some 50) #[true, true, true, true, true, true, true, true, true, true, true, true, true, true, true, true, true, true, true, true, true, true, true, true, true, true, true, true, true, true, true, true, true, false, false, false, false, false, false, false, false, false, false, false, false, false, false, false, false] rfl rfl (one_of HT_.out (by kernel_rfl)) (by decide) (fun K hK => ?_)
        refine goes_ Try.func35 (by kernel_rfl) rfl #[.agg #[.int .i64 a0_0, .int .i64 a0_1, .int .i64 a0_2, .int .i64 a0_3, .int .i64 a0_4, .int .i64 a0_5, .int .i64 a0_6, .int .i64 a0_7]] (by rfl) rfl rfl aA ?_
        with_reducible refine (config_Floor.calls k a0_0 a0_1 a0_2 a0_3 a0_4 a0_5 a0_6 a0_7 t392 _ A18.out).mono ?_
        rintro e w58 ⟨rfl, hb⟩
        refine ⟨_, rfl, ?_⟩; have n0_ := Aside0.mk (blk_below (g := gb370) kA hb); have n1_ := Aside0.mk (blk_below (g := gb376) kA hb); have n2_ := Aside0.mk (blk_below (g := gb377) kA hb); have n3_ := Aside0.mk (blk_below (g := gb382) kA hb); have n4_ := Aside0.mk (blk_below (g := gb383) kA hb); have n5_ := Aside0.mk (below_step bA hb); clear BK370 BK376 BK377 BK382 BK383 HB; have BK370 := n0_; have BK376 := n1_; have BK377 := n2_; have BK382 := n3_; have BK383 := n4_; have HB := n5_; clear n0_ n1_ n2_ n3_ n4_ n5_; (try clear hb)
        refine hK.out _ _ ⟨(blk_cell BK370.out 0).trans rfl, (blk_cell BK370.out 1).trans rfl, (blk_cell BK370.out 2).trans rfl, (blk_cell BK370.out 3).trans rfl, (blk_cell BK370.out 4).trans rfl, (blk_cell BK370.out 5).trans rfl, (blk_cell BK370.out 6).trans rfl, (blk_cell BK370.out 7).trans rfl, (blk_cell BK376.out 0).trans rfl, (blk_cell BK376.out 1).trans rfl, (blk_cell BK382.out 0).trans rfl, (blk_cell BK382.out 1).trans rfl, (blk_cell BK377.out 0).trans rfl, (blk_cell BK377.out 1).trans rfl, (blk_cell BK383.out 0).trans rfl, (blk_cell BK383.out 1).trans rfl⟩ (fun hHeld => ?_)
        clear hK K
        refine norm_ (a' := ?_) ?_ ?_
        rotate_left
        ·show Act.put _ (some 50) _ = _
         simp only [Act.put, List.setIfInBounds_toArray, List.set_cons_zero, List.set_cons_succ, i64_w, i32_w]
         rfl
        refine one_ (i := 33) (N := some 52) #[true, true, true, true, true, true, true, true, true, true, true, true, true, true, true, true, true, true, true, true, true, true, true, true, true, true, true, true, true, true, true, true, true, true, false, false, false, false, false, false, false, false, false, false, false, false, false, false, false] rfl rfl (one_of HT_.out (by kernel_rfl)) (by decide) (fun K hK => ?_)
        refine goes_ Try.func36 (by kernel_rfl) rfl #[.agg #[.int .i64 a0_0, .int .i64 a0_1, .int .i64 a0_2, .int .i64 a0_3, .int .i64 a0_4, .int .i64 a0_5, .int .i64 a0_6, .int .i64 a0_7]] (by rfl) rfl rfl aA ?_
        with_reducible refine (backfillref11_Floor.calls k a0_0 a0_1 a0_2 a0_3 a0_4 a0_5 a0_6 a0_7 t393 _ A19.out).mono ?_
        rintro e w59 ⟨rfl, hb⟩
        refine ⟨_, rfl, ?_⟩; have n0_ := Aside0.mk (blk_below (g := gb370) kA hb); have n1_ := Aside0.mk (blk_below (g := gb376) kA hb); have n2_ := Aside0.mk (blk_below (g := gb377) kA hb); have n3_ := Aside0.mk (blk_below (g := gb382) kA hb); have n4_ := Aside0.mk (blk_below (g := gb383) kA hb); have n5_ := Aside0.mk (below_step bA hb); clear BK370 BK376 BK377 BK382 BK383 HB; have BK370 := n0_; have BK376 := n1_; have BK377 := n2_; have BK382 := n3_; have BK383 := n4_; have HB := n5_; clear n0_ n1_ n2_ n3_ n4_ n5_; (try clear hb)
        refine hK.out _ _ ⟨(blk_cell BK370.out 0).trans rfl, (blk_cell BK370.out 1).trans rfl, (blk_cell BK370.out 2).trans rfl, (blk_cell BK370.out 3).trans rfl, (blk_cell BK370.out 4).trans rfl, (blk_cell BK370.out 5).trans rfl, (blk_cell BK370.out 6).trans rfl, (blk_cell BK370.out 7).trans rfl, (blk_cell BK376.out 0).trans rfl, (blk_cell BK376.out 1).trans rfl, (blk_cell BK382.out 0).trans rfl, (blk_cell BK382.out 1).trans rfl, (blk_cell BK377.out 0).trans rfl, (blk_cell BK377.out 1).trans rfl, (blk_cell BK383.out 0).trans rfl, (blk_cell BK383.out 1).trans rfl⟩ (fun hHeld => ?_)
        clear hK K
        refine norm_ (a' := ?_) ?_ ?_
        rotate_left
        ·show Act.put _ (some 52) _ = _
         simp only [Act.put, List.setIfInBounds_toArray, List.set_cons_zero, List.set_cons_succ, i64_w, i32_w]
         rfl
        refine pure_ (i := 34) (N := some 53) (v := ?_) (a' := ?_) #[true, true, true, true, true, true, true, true, true, true, true, true, true, true, true, true, true, true, true, true, true, true, true, true, true, true, true, true, true, true, true, true, true, true, true, false, false, false, false, false, false, false, false, false, false, false, false, false, false] rfl rfl (any_of HT_.out (by kernel_rfl)) (fun _ _ _ h => h) (Or.inl ⟨by rfl, ?_⟩) ?_ ?_
        rotate_left
        ·intro w'
         go_simp; with_reducible rfl
        rotate_left
        ·simp only [Act.put, List.setIfInBounds_toArray, List.set_cons_zero, List.set_cons_succ, i64_w, i32_w]
         rfl
        refine pure_ (i := 35) (N := some 54) (v := ?_) (a' := ?_) #[true, true, true, true, true, true, true, true, true, true, true, true, true, true, true, true, true, true, true, true, true, true, true, true, true, true, true, true, true, true, true, true, true, true, true, true, false, false, false, false, false, false, false, false, false, false, false, false, false] rfl rfl (any_of HT_.out (by kernel_rfl)) (fun _ _ _ h => h) (Or.inl ⟨by rfl, ?_⟩) ?_ ?_
        rotate_left
        ·intro w'
         go_simp; with_reducible rfl
        rotate_left
        ·simp only [Act.put, List.setIfInBounds_toArray, List.set_cons_zero, List.set_cons_succ, i64_w, i32_w]
         rfl
        refine pure_ (i := 36) (N := some 55) (v := ?_) (a' := ?_) #[true, true, true, true, true, true, true, true, true, true, true, true, true, true, true, true, true, true, true, true, true, true, true, true, true, true, true, true, true, true, true, true, true, true, true, true, true, false, false, false, false, false, false, false, false, false, false, false, false] rfl rfl (any_of HT_.out (by kernel_rfl)) (fun _ _ _ h => h) (Or.inl ⟨by rfl, ?_⟩) ?_ ?_
        rotate_left
        ·intro w'
         go_simp; with_reducible rfl
        rotate_left
        ·simp only [Act.put, List.setIfInBounds_toArray, List.set_cons_zero, List.set_cons_succ, i64_w, i32_w]
         rfl
        refine take_ (i := 37) (N := some 56) (v := ?_) (a' := ?_) #[true, true, true, true, true, true, true, true, true, true, true, true, true, true, true, true, true, true, true, true, true, true, true, true, true, true, true, true, true, true, true, true, true, true, true, true, true, true, false, false, false, false, false, false, false, false, false, false, false] rfl rfl (take_ofW HT_.out HW_.out (by kernel_rfl)) (fun _ _ _ h => h) (Or.inl ⟨by rfl, ?_⟩) hHeld ?_ ?_
        rotate_left
        ·rintro w' ⟨s0, s1, s2, s3, s4, s5, s6, s7, s8, s9, s10, s11, s12, s13, s14, s15⟩
         go_simp; with_reducible rfl
        rotate_left
        ·simp only [Act.put, List.setIfInBounds_toArray, List.set_cons_zero, List.set_cons_succ, i64_w, i32_w]
         rfl
        refine take_ (i := 38) (N := some 57) (v := ?_) (a' := ?_) #[true, true, true, true, true, true, true, true, true, true, true, true, true, true, true, true, true, true, true, true, true, true, true, true, true, true, true, true, true, true, true, true, true, true, true, true, true, true, true, false, false, false, false, false, false, false, false, false, false] rfl rfl (take_ofW HT_.out HW_.out (by kernel_rfl)) (fun _ _ _ h => h) (Or.inl ⟨by rfl, ?_⟩) hHeld ?_ ?_
        rotate_left
        ·rintro w' ⟨s0, s1, s2, s3, s4, s5, s6, s7, s8, s9, s10, s11, s12, s13, s14, s15⟩
         go_simp; with_reducible rfl
        rotate_left
        ·simp only [Act.put, List.setIfInBounds_toArray, List.set_cons_zero, List.set_cons_succ, i64_w, i32_w]
         rfl
        refine one_ (i := 39) (N := some 58) #[true, true, true, true, true, true, true, true, true, true, true, true, true, true, true, true, true, true, true, true, true, true, true, true, true, true, true, true, true, true, true, true, true, true, true, true, true, true, true, true, false, false, false, false, false, false, false, false, false] rfl rfl (one_of HT_.out (by kernel_rfl)) (by decide) (fun K hK => ?_)
        refine goes_ Try.func37 (by kernel_rfl) rfl #[.agg #[.int .u64 t378, .int .u64 t379]] (by rfl) rfl rfl aA ?_
        with_reducible refine (backfilllaw11_num.calls t378 t379 t394 t395 _ A21.out).mono ?_
        rintro e w60 ⟨rfl, hb⟩
        refine ⟨_, rfl, ?_⟩; have n0_ := Aside0.mk (blk_below (g := gb370) kA hb); have n1_ := Aside0.mk (blk_below (g := gb376) kA hb); have n2_ := Aside0.mk (blk_below (g := gb377) kA hb); have n3_ := Aside0.mk (blk_below (g := gb382) kA hb); have n4_ := Aside0.mk (blk_below (g := gb383) kA hb); have n5_ := Aside0.mk (below_step bA hb); clear BK370 BK376 BK377 BK382 BK383 HB; have BK370 := n0_; have BK376 := n1_; have BK377 := n2_; have BK382 := n3_; have BK383 := n4_; have HB := n5_; clear n0_ n1_ n2_ n3_ n4_ n5_; (try clear hb)
        refine hK.out _ _ ⟨(blk_cell BK370.out 0).trans rfl, (blk_cell BK370.out 1).trans rfl, (blk_cell BK370.out 2).trans rfl, (blk_cell BK370.out 3).trans rfl, (blk_cell BK370.out 4).trans rfl, (blk_cell BK370.out 5).trans rfl, (blk_cell BK370.out 6).trans rfl, (blk_cell BK370.out 7).trans rfl, (blk_cell BK376.out 0).trans rfl, (blk_cell BK376.out 1).trans rfl, (blk_cell BK382.out 0).trans rfl, (blk_cell BK382.out 1).trans rfl, (blk_cell BK377.out 0).trans rfl, (blk_cell BK377.out 1).trans rfl, (blk_cell BK383.out 0).trans rfl, (blk_cell BK383.out 1).trans rfl⟩ (fun hHeld => ?_)
        clear hK K
        refine norm_ (a' := ?_) ?_ ?_
        rotate_left
        ·show Act.put _ (some 58) _ = _
         simp only [Act.put, List.setIfInBounds_toArray, List.set_cons_zero, List.set_cons_succ, i64_w, i32_w]
         rfl
        refine pure_ (i := 40) (N := some 59) (v := ?_) (a' := ?_) #[true, true, true, true, true, true, true, true, true, true, true, true, true, true, true, true, true, true, true, true, true, true, true, true, true, true, true, true, true, true, true, true, true, true, true, true, true, true, true, true, true, false, false, false, false, false, false, false, false] rfl rfl (any_of HT_.out (by kernel_rfl)) (fun _ _ _ h => h) (Or.inl ⟨by rfl, ?_⟩) ?_ ?_
        rotate_left
        ·intro w'
         go_simp; with_reducible rfl
        rotate_left
        ·simp only [Act.put, List.setIfInBounds_toArray, List.set_cons_zero, List.set_cons_succ, i64_w, i32_w]
         rfl
        refine pure_ (i := 41) (N := some 60) (v := ?_) (a' := ?_) #[true, true, true, true, true, true, true, true, true, true, true, true, true, true, true, true, true, true, true, true, true, true, true, true, true, true, true, true, true, true, true, true, true, true, true, true, true, true, true, true, true, true, false, false, false, false, false, false, false] rfl rfl (any_of HT_.out (by kernel_rfl)) (fun _ _ _ h => h) (Or.inl ⟨by rfl, ?_⟩) ?_ ?_
        rotate_left
        ·intro w'
         go_simp; with_reducible rfl
        rotate_left
        ·simp only [Act.put, List.setIfInBounds_toArray, List.set_cons_zero, List.set_cons_succ, i64_w, i32_w]
         rfl
        refine pure_ (i := 42) (N := some 61) (v := ?_) (a' := ?_) #[true, true, true, true, true, true, true, true, true, true, true, true, true, true, true, true, true, true, true, true, true, true, true, true, true, true, true, true, true, true, true, true, true, true, true, true, true, true, true, true, true, true, true, false, false, false, false, false, false] rfl rfl (any_of HT_.out (by kernel_rfl)) (fun _ _ _ h => h) (Or.inl ⟨by rfl, ?_⟩) ?_ ?_
        rotate_left
        ·intro w'
         go_simp; with_reducible rfl
        rotate_left
        ·simp only [Act.put, List.setIfInBounds_toArray, List.set_cons_zero, List.set_cons_succ, i64_w, i32_w]
         rfl
        refine take_ (i := 43) (N := some 62) (v := ?_) (a' := ?_) #[true, true, true, true, true, true, true, true, true, true, true, true, true, true, true, true, true, true, true, true, true, true, true, true, true, true, true, true, true, true, true, true, true, true, true, true, true, true, true, true, true, true, true, true, false, false, false, false, false] rfl rfl (take_ofW HT_.out HW_.out (by kernel_rfl)) (fun _ _ _ h => h) (Or.inl ⟨by rfl, ?_⟩) hHeld ?_ ?_
        rotate_left
        ·rintro w' ⟨s0, s1, s2, s3, s4, s5, s6, s7, s8, s9, s10, s11, s12, s13, s14, s15⟩
         go_simp; with_reducible rfl
        rotate_left
        ·simp only [Act.put, List.setIfInBounds_toArray, List.set_cons_zero, List.set_cons_succ, i64_w, i32_w]
         rfl
        refine take_ (i := 44) (N := some 63) (v := ?_) (a' := ?_) #[true, true, true, true, true, true, true, true, true, true, true, true, true, true, true, true, true, true, true, true, true, true, true, true, true, true, true, true, true, true, true, true, true, true, true, true, true, true, true, true, true, true, true, true, true, false, false, false, false] rfl rfl (take_ofW HT_.out HW_.out (by kernel_rfl)) (fun _ _ _ h => h) (Or.inl ⟨by rfl, ?_⟩) hHeld ?_ ?_
        rotate_left
        ·rintro w' ⟨s0, s1, s2, s3, s4, s5, s6, s7, s8, s9, s10, s11, s12, s13, s14, s15⟩
         go_simp; with_reducible rfl
        rotate_left
        ·simp only [Act.put, List.setIfInBounds_toArray, List.set_cons_zero, List.set_cons_succ, i64_w, i32_w]
         rfl
        refine one_ (i := 45) (N := some 64) #[true, true, true, true, true, true, true, true, true, true, true, true, true, true, true, true, true, true, true, true, true, true, true, true, true, true, true, true, true, true, true, true, true, true, true, true, true, true, true, true, true, true, true, true, true, true, false, false, false] rfl rfl (one_of HT_.out (by kernel_rfl)) (by decide) (fun K hK => ?_)
        refine goes_ Try.func37 (by kernel_rfl) rfl #[.agg #[.int .u64 t380, .int .u64 t381]] (by rfl) rfl rfl aA ?_
        with_reducible refine (backfilllaw11_num.calls t380 t381 t396 t397 _ A23.out).mono ?_
        rintro e w61 ⟨rfl, hb⟩
        refine ⟨_, rfl, ?_⟩; have n0_ := Aside0.mk (blk_below (g := gb370) kA hb); have n1_ := Aside0.mk (blk_below (g := gb376) kA hb); have n2_ := Aside0.mk (blk_below (g := gb377) kA hb); have n3_ := Aside0.mk (blk_below (g := gb382) kA hb); have n4_ := Aside0.mk (blk_below (g := gb383) kA hb); have n5_ := Aside0.mk (below_step bA hb); clear BK370 BK376 BK377 BK382 BK383 HB; have BK370 := n0_; have BK376 := n1_; have BK377 := n2_; have BK382 := n3_; have BK383 := n4_; have HB := n5_; clear n0_ n1_ n2_ n3_ n4_ n5_; (try clear hb)
        refine hK.out _ _ ⟨(blk_cell BK370.out 0).trans rfl, (blk_cell BK370.out 1).trans rfl, (blk_cell BK370.out 2).trans rfl, (blk_cell BK370.out 3).trans rfl, (blk_cell BK370.out 4).trans rfl, (blk_cell BK370.out 5).trans rfl, (blk_cell BK370.out 6).trans rfl, (blk_cell BK370.out 7).trans rfl, (blk_cell BK376.out 0).trans rfl, (blk_cell BK376.out 1).trans rfl, (blk_cell BK382.out 0).trans rfl, (blk_cell BK382.out 1).trans rfl, (blk_cell BK377.out 0).trans rfl, (blk_cell BK377.out 1).trans rfl, (blk_cell BK383.out 0).trans rfl, (blk_cell BK383.out 1).trans rfl⟩ (fun hHeld => ?_)
        clear hK K
        refine norm_ (a' := ?_) ?_ ?_
        rotate_left
        ·show Act.put _ (some 64) _ = _
         simp only [Act.put, List.setIfInBounds_toArray, List.set_cons_zero, List.set_cons_succ, i64_w, i32_w]
         rfl
        refine pure_ (i := 46) (N := some 65) (v := ?_) (a' := ?_) #[true, true, true, true, true, true, true, true, true, true, true, true, true, true, true, true, true, true, true, true, true, true, true, true, true, true, true, true, true, true, true, true, true, true, true, true, true, true, true, true, true, true, true, true, true, true, true, false, false] rfl rfl (any_of HT_.out (by kernel_rfl)) (fun _ _ _ h => h) (Or.inl ⟨by rfl, ?_⟩) ?_ ?_
        rotate_left
        ·intro w'
         go_simp; with_reducible rfl
        rotate_left
        ·simp only [Act.put, List.setIfInBounds_toArray, List.set_cons_zero, List.set_cons_succ, i64_w, i32_w]
         rfl
        refine pure_ (i := 47) (N := some 66) (v := ?_) (a' := ?_) #[true, true, true, true, true, true, true, true, true, true, true, true, true, true, true, true, true, true, true, true, true, true, true, true, true, true, true, true, true, true, true, true, true, true, true, true, true, true, true, true, true, true, true, true, true, true, true, true, false] rfl rfl (any_of HT_.out (by kernel_rfl)) (fun _ _ _ h => h) (Or.inl ⟨by rfl, ?_⟩) ?_ ?_
        rotate_left
        ·intro w'
         go_simp; with_reducible rfl
        rotate_left
        ·simp only [Act.put, List.setIfInBounds_toArray, List.set_cons_zero, List.set_cons_succ, i64_w, i32_w]
         rfl
        refine pure_ (i := 48) (N := some 2) (v := ?_) (a' := ?_) #[true, true, true, true, true, true, true, true, true, true, true, true, true, true, true, true, true, true, true, true, true, true, true, true, true, true, true, true, true, true, true, true, true, true, true, true, true, true, true, true, true, true, true, true, true, true, true, true, true] rfl rfl (any_of HT_.out (by kernel_rfl)) (fun _ _ _ h => h) (Or.inl ⟨by rfl, ?_⟩) ?_ ?_
        rotate_left
        ·intro w'
         go_simp; with_reducible rfl
        rotate_left
        ·simp only [Act.put, List.setIfInBounds_toArray, List.set_cons_zero, List.set_cons_succ, i64_w, i32_w]
         rfl
        refine done_ (done_of HT_.out (by kernel_rfl)) ?_
        try go_wp2
        go_ret
        exact ⟨by first | rfl | (simp [errW_none, errW_some] <;> rfl) | (simp [*, errW_none, errW_some] <;> rfl), bA⟩
       ·rw [if_neg c22] at H
        have c22b0 : (t372 == t394 && (t373 == t395)) = false := by simpa using c22
        (try (have c22b1 : decide (t372 = t394 && (t373 == t395)) = false := by simpa using c22))
        (try (have c22b2 : (t372 == t394 && (t373 == t395)) = false := by simpa using c22))
        (try (have c22b3 : ¬ (t372 = t394 && (t373 == t395)) := by simpa using c22))
        clear c22
        exact absurd H (by simp)
      ·rw [if_neg c20] at H
       have c20b0 : (t392 == t393) = false := beq_eq_false_iff_ne.mpr c20
       have c20b1 : (t392 != t393) = true := bne_iff_ne.mpr c20
       exact absurd H (by simp)
     ·rw [if_neg c17] at H
      have c17b0 : (t390 == t391) = false := beq_eq_false_iff_ne.mpr c17
      have c17b1 : (t390 != t391) = true := bne_iff_ne.mpr c17
      exact absurd H (by simp)
    ·rw [if_neg c14] at H
     have c14b0 : (t388 == t389) = false := beq_eq_false_iff_ne.mpr c14
     have c14b1 : (t388 != t389) = true := bne_iff_ne.mpr c14
     exact absurd H (by simp)
   ·rw [if_neg c11] at H
    have c11b0 : (t386 == t387) = false := beq_eq_false_iff_ne.mpr c11
    have c11b1 : (t386 != t387) = true := bne_iff_ne.mpr c11
    exact absurd H (by simp)
  ·rw [if_neg c8] at H
   have c8b0 : (t384 == t385) = false := beq_eq_false_iff_ne.mpr c8
   have c8b1 : (t384 != t385) = true := bne_iff_ne.mpr c8
   exact absurd H (by simp)
 ·replace c5 := Bool.eq_false_iff.mpr c5
  subst c5
  have H1 : (none) = some r := by rw [if_neg (show ¬ (false = true) by decide)] at H; exact H
  clear H
  have H := H1
  clear H1
  exact absurd H (by simp)

end Go.Proofs.Ytcolhngdhlamkaa.GCT
