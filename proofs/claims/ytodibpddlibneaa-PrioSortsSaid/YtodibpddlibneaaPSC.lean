/- The orders that PrioSorts hands in, and its look at what was sorted. Conditions: each theorem's own. -/
import Derived.Test.YtodibpddlibneaaPSP
namespace Go.Proofs.Ytodibpddlibneaa.S
open Go.RowKit Go.Proofs.YtodibpddlibneaaW.PrintWords Go.Proofs.YtodibpddlibneaaW.PrintLast Go.Proofs.Ytodibpddlibneaa.H
set_option linter.unusedVariables false
set_option linter.unusedSimpArgs false

def ev (x : Int × Int) : Value := .agg #[.int .i64 x.1, .int .i64 x.2]
/-- A variable of one whole number, in memory. -/
def NumAt (g : Nat) (w : World) : Prop := ∃ k : Int, w.heap[g]? = some (.cells #[.int .i64 k] 3 (0, 0))
def OneAt (g : Nat) (k : Int) (w : World) : Prop := w.heap[g]? = some (.cells #[.int .i64 k] 3 (0, 0))
set_option maxHeartbeats 8000000 in
set_option maxRecDepth 100000 in
theorem byKey_calls (g : Nat) (w : World) (x y : Int × Int) (hI : NumAt g w) :
    Calls Try.prog 8 (#[ev x, ev y] ++ #[.pointer (some ⟨g, 0, none⟩)]) w fun e w' => e = .returned (.bool (ltK x y)) ∧ NumAt g w' ∧ w.grownBy w' (some g) := by
  obtain ⟨k, hk⟩ := hI
  have hc : w.cell? ⟨g, 0, none⟩ = some (.int .i64 k) := cell_at hk rfl
  have hf : w.frozen? ⟨g, 0, none⟩ = false := by simp [World.frozen?, hk]
  have hl := blk_lt' hk
  have HK := Aside0.mk hk
  clear hk
  show Calls Try.prog 8 #[.agg #[.int .i64 x.1, .int .i64 x.2], .agg #[.int .i64 y.1, .int .i64 y.2], .pointer (some ⟨g, 0, none⟩)] w _
  go_enter Try.func8, Try.ntmps8
  go_wp2
  go_ret
  have h1 : (w.setCell ⟨g, 0, none⟩ (.int .i64 (wrap64 (k + 1)))).heap[g]? = some (.cells #[.int .i64 (wrap64 (k + 1))] 3 (0, 0)) := by
    simp [World.setCell, Array.getElem?_modify, HK.out]
  have g1 := World.grownBy_alloc (w.setCell ⟨g, 0, none⟩ (.int .i64 (wrap64 (k + 1)))) (.cells #[.int .i64 x.1, .int .i64 x.2] 25) none
  have g2 := World.grownBy.trans g1 (World.grownBy_alloc _ (.cells #[.int .i64 y.1, .int .i64 y.2] 25) none)
  exact ⟨rfl, ⟨_, blk_kept h1 g2 (by simp)⟩, World.grownBy.trans (gb_setCell _ _ _ _) (gb_any g2 _)⟩
set_option maxHeartbeats 8000000 in
set_option maxRecDepth 100000 in
theorem always_calls (w : World) (x y : Int × Int) :
    Calls Try.prog 10 (#[ev x, ev y] ++ #[]) w fun e w' => e = .returned (.bool true) ∧ True ∧ w.grownBy w' none := by
  show Calls Try.prog 10 #[.agg #[.int .i64 x.1, .int .i64 x.2], .agg #[.int .i64 y.1, .int .i64 y.2]] w _
  go_enter Try.func10, Try.ntmps10
  go_wp2
  go_ret
  exact ⟨rfl, trivial, World.grownBy.trans (World.grownBy_alloc _ _ _) (World.grownBy_alloc _ _ _)⟩
set_option maxHeartbeats 8000000 in
set_option maxRecDepth 100000 in
theorem odd_calls (g : Nat) (k : Int) (w : World) (x y : Int × Int) (hI : OneAt g k w) :
    Calls Try.prog 9 (#[ev x, ev y] ++ #[.pointer (some ⟨g, 0, none⟩)]) w fun e w' => e = .returned (.bool (Int.tmod (wrap64 (wrap64 (wrap64 (x.1 * 31) + wrap64 (y.2 * 17)) + k)) 3 == 0)) ∧ OneAt g k w' ∧ w.grownBy w' none := by
  have hc : w.cell? ⟨g, 0, none⟩ = some (.int .i64 k) := cell_at hI rfl
  have hl := blk_lt' hI
  have HK := Aside0.mk hI
  clear hI
  show Calls Try.prog 9 #[.agg #[.int .i64 x.1, .int .i64 x.2], .agg #[.int .i64 y.1, .int .i64 y.2], .pointer (some ⟨g, 0, none⟩)] w _
  go_enter Try.func9, Try.ntmps9
  go_wp2
  go_ret
  have g2 := World.grownBy.trans (World.grownBy_alloc w (.cells #[.int .i64 x.1, .int .i64 x.2] 25) none) (World.grownBy_alloc _ (.cells #[.int .i64 y.1, .int .i64 y.2] 25) none)
  exact ⟨rfl, blk_kept HK.out g2 (by simp), g2⟩
theorem byKey_order (g : Nat) : Order Try.prog 8 #[.pointer (some ⟨g, 0, none⟩)] (fun x : Int × Int => .agg #[.int .i64 x.1, .int .i64 x.2]) ltK (some g) (NumAt g) :=
  ⟨fun w x y hI => byKey_calls g w x y hI, fun w w' r ⟨k, hk⟩ hg hr => ⟨k, blk_kept hk hg (fun e => hr g rfl e.symm)⟩⟩
def oddB (k : Int) (x y : Int × Int) : Bool := Int.tmod (wrap64 (wrap64 (wrap64 (x.1 * 31) + wrap64 (y.2 * 17)) + k)) 3 == 0
theorem odd_order (g : Nat) (k : Int) : Order Try.prog 9 #[.pointer (some ⟨g, 0, none⟩)] (fun x : Int × Int => .agg #[.int .i64 x.1, .int .i64 x.2]) (oddB k) (some g) (OneAt g k) :=
  ⟨fun w x y hI => (odd_calls g k w x y hI).mono fun e w' ⟨h1, h2, h3⟩ => ⟨h1, h2, gb_any h3 _⟩, fun w w' r hk hg hr => blk_kept hk hg (fun e => hr g rfl e.symm)⟩
theorem always_order : Order Try.prog 10 #[] (fun x : Int × Int => .agg #[.int .i64 x.1, .int .i64 x.2]) (fun _ _ => true) none (fun _ => True) :=
  ⟨fun w x y _ => always_calls w x y, fun _ _ _ _ _ _ => trivial⟩
end Go.Proofs.Ytodibpddlibneaa.S
