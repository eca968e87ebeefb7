/- LedgerLess answers true: at configs that are none, too. Conditions: each theorem's own. -/
import Derived.Test.YtgjjfnjnjnbfgaaDoorLL
namespace Go.Proofs.YtgjjfnjnjnbfgaaDoor.L
open Go.RowKit Go.Proofs.YtgjjfnjnjnbfgaaDoorW.PrintWords Go.Proofs.YtgjjfnjnjnbfgaaDoorW.PrintLast Go.Proofs.YtgjjfnjnjnbfgaaDoor.H Go.Proofs.YtgjjfnjnjnbfgaaDoor.Q Go.Proofs.YtgjjfnjnjnbfgaaDoor.GLG
set_option linter.unusedVariables false
set_option linter.unusedSimpArgs false

set_option maxHeartbeats 8000000 in
set_option maxRecDepth 100000 in
theorem Less_bad (w : World) (hL : LaidW w) (a0 a1 a2 a3 a4 a5 a6 a7 : Int) (A : Option Addr) (n c : Nat) (skip : Int) (hk : checkV a0 a1 a2 a3 a4 a5 a6 a7 ≠ 0) :
    Calls Tryd.prog 4 #[.agg #[.int .i64 a0, .int .i64 a1, .int .i64 a2, .int .i64 a3, .int .i64 a4, .int .i64 a5, .int .i64 a6, .int .i64 a7], .slice A n c, .int .i64 skip] w fun e w' => e = .returned (.bool true) ∧ Below w.heap.size w w' := by
  obtain ⟨r, hr⟩ : ∃ r, r = checkV a0 a1 a2 a3 a4 a5 a6 a7 := ⟨_, rfl⟩
  rw [← hr] at hk
  have HE := Aside0.mk hr
  have hb1 : (r == 0) = false := by simpa using hk
  have hb2 : (r != 0) = true := by simpa using hk
  have HL := Aside0.mk hL
  have HB0 := Aside0.mk (heap_alloc_new w (.cells #[.int .i64 a0, .int .i64 a1, .int .i64 a2, .int .i64 a3, .int .i64 a4, .int .i64 a5, .int .i64 a6, .int .i64 a7] 23))
  have HG0 := Aside0.mk (World.grownBy_alloc w (.cells #[.int .i64 a0, .int .i64 a1, .int .i64 a2, .int .i64 a3, .int .i64 a4, .int .i64 a5, .int .i64 a6, .int .i64 a7] 23) none)
  clear hr hL hk
  go_enter Tryd.func4, Tryd.ntmps4
  go_wp2_with fail
  refine (shown_calls _ (laid_below HL.out (below_of_gb HG0.out))).mono ?_
  rintro e w1 ⟨rfl, hb⟩
  have HB1 := Aside0.mk (blk_kept HB0.out (gb_of_below hb none) (by simp))
  have HG1 := Aside0.mk (World.grownBy.trans HG0.out (gb_of_below hb none))
  clear hb HB0 HG0
  have q0 : w1.cell? ⟨w.heap.size, 0, none⟩ = some (.int .i64 a0) := cell_of HB1.out rfl
  have q1 : w1.cell? ⟨w.heap.size, 1, none⟩ = some (.int .i64 a1) := cell_of HB1.out rfl
  have q2 : w1.cell? ⟨w.heap.size, 2, none⟩ = some (.int .i64 a2) := cell_of HB1.out rfl
  have q3 : w1.cell? ⟨w.heap.size, 3, none⟩ = some (.int .i64 a3) := cell_of HB1.out rfl
  have q4 : w1.cell? ⟨w.heap.size, 4, none⟩ = some (.int .i64 a4) := cell_of HB1.out rfl
  have q5 : w1.cell? ⟨w.heap.size, 5, none⟩ = some (.int .i64 a5) := cell_of HB1.out rfl
  have q6 : w1.cell? ⟨w.heap.size, 6, none⟩ = some (.int .i64 a6) := cell_of HB1.out rfl
  have q7 : w1.cell? ⟨w.heap.size, 7, none⟩ = some (.int .i64 a7) := cell_of HB1.out rfl
  have HCk := Aside0.mk (check_calls w1 a0 a1 a2 a3 a4 a5 a6 a7)
  rw [← HE.out] at HCk
  go_wp2_with fail
  refine (HCk.out).mono ?_
  rintro e w2 ⟨rfl, hb⟩
  have HG2 := Aside0.mk (below_of_gb (World.grownBy.trans HG1.out (gb_of_below hb none)))
  clear hb
  go_wp2_with fail
  go_ret
  exact ⟨rfl, HG2.out⟩
theorem Less_all (w : World) (hL : LaidW w) (a0 : Int) (w0 : (Lit.int .i64 a0).wf = true) (a1 : Int) (w1 : (Lit.int .i64 a1).wf = true) (a2 : Int) (w2 : (Lit.int .i64 a2).wf = true) (a3 : Int) (w3 : (Lit.int .i64 a3).wf = true) (a4 : Int) (w4 : (Lit.int .i64 a4).wf = true) (a5 : Int) (w5 : (Lit.int .i64 a5).wf = true) (a6 : Int) (w6 : (Lit.int .i64 a6).wf = true) (a7 : Int) (w7 : (Lit.int .i64 a7).wf = true)
    (A : Option Addr) (n c : Nat) (ls : List (Int × Int × Int × Int)) (hr : Rd Ea w A n ls) (hc : n ≤ c) (hs : n * 32 ≤ 140737488351232) (skip : Int) (hw : (Lit.int .i64 skip).wf = true) :
    Calls Tryd.prog 4 #[.agg #[.int .i64 a0, .int .i64 a1, .int .i64 a2, .int .i64 a3, .int .i64 a4, .int .i64 a5, .int .i64 a6, .int .i64 a7], .slice A n c, .int .i64 skip] w fun e w' => e = .returned (.bool true) ∧ Below w.heap.size w w' := by
  by_cases hk : checkV a0 a1 a2 a3 a4 a5 a6 a7 = 0
  · exact Less_law w hL a0 a1 a2 a3 a4 a5 a6 a7 A n c ls hr hc hs skip hk
  · exact Less_bad w hL a0 a1 a2 a3 a4 a5 a6 a7 A n c skip hk
end Go.Proofs.YtgjjfnjnjnbfgaaDoor.L
