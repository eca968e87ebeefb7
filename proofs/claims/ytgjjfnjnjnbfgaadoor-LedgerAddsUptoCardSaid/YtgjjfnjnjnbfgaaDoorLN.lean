/- What the functions on numbers answer, that the ledgers call: by the print's contracts and the plain laws. Conditions: each theorem's own. -/
import Derived.Test.YtgjjfnjnjnbfgaaDoorTN
import Derived.Test.YtgjjfnjnjnbfgaaDoorGLGx8
import Derived.Test.YtgjjfnjnjnbfgaaDoorQLGLDecP
import Derived.Test.YtgjjfnjnjnbfgaaDoorQLGCfgP
import Derived.WalkSpells
namespace Go.Proofs.YtgjjfnjnjnbfgaaDoor.L
open Go.RowKit Go.Proofs.YtgjjfnjnjnbfgaaDoorW.PrintWords Go.Proofs.YtgjjfnjnjnbfgaaDoorW.PrintLast Go.Proofs.YtgjjfnjnjnbfgaaDoor.H Go.Proofs.YtgjjfnjnjnbfgaaDoor.Q Go.Proofs.YtgjjfnjnjnbfgaaDoor.GLG
set_option linter.unusedVariables false

theorem add_calls (w : World) (a b : Int) (ha : U a) (hb : U b) : Calls Tryd.prog 38 #[.int .u64 a, .int .u64 b] w fun e w' => e = .returned (.tuple #[.int .u64 (capV (a + b)).1, .bool (capV (a + b)).2]) ∧ Below w.heap.size w w' :=
  fixq_Add.calls a b _ _ w (fq_add ha hb)
theorem charge_calls (w : World) (u n : Int) (hu : U u) (hn : n ≤ 9223372036854775807) : Calls Tryd.prog 46 #[.int .u64 u, .int .i64 n] w fun e w' => e = .returned (.int .u64 (chargeV u n)) ∧ Below w.heap.size w w' :=
  decay_Charge.calls u n _ w (charge hu hn)
theorem fade_calls (w : World) (u f : Int) (hu : U u) (hf : U f) : Calls Tryd.prog 44 #[.int .u64 u, .int .u64 f] w fun e w' => e = .returned (.int .u64 (partV u f)) ∧ Below w.heap.size w w' :=
  decay_Fade.calls u f _ w (fade hu hf)
theorem factor_calls (w : World) (hL : LaidW w) (p h : Int) : Calls Tryd.prog 30 #[.int .i64 p, .int .i64 h] w fun e w' => e = .returned (.tuple #[.int .u64 (factV p h).1, .int .i64 (factV p h).2]) ∧ Below w.heap.size w w' :=
  decay_Factor.calls p h _ _ w hL (factor p h)
theorem check_calls (w : World) (a0 a1 a2 a3 a4 a5 a6 a7 : Int) : Calls Tryd.prog 19 #[.agg #[.int .i64 a0, .int .i64 a1, .int .i64 a2, .int .i64 a3, .int .i64 a4, .int .i64 a5, .int .i64 a6, .int .i64 a7]] w fun e w' => e = .returned (.int .i64 (checkV a0 a1 a2 a3 a4 a5 a6 a7)) ∧ Below w.heap.size w w' :=
  config_Check.calls 10 a0 a1 a2 a3 a4 a5 a6 a7 _ w (p_check 10 (by omega) a0 a1 a2 a3 a4 a5 a6 a7)
theorem rdU {xs : List Int} (h : ∀ x ∈ xs, U x) (a : Int) : U (rd xs a) := by
  unfold rd
  rw [List.getD_eq_getElem?_getD]
  cases e : xs[a.toNat]? with
  | none => exact ⟨by decide, by decide⟩
  | some y => exact h y (List.mem_of_getElem? e)
theorem chargeU {u m : Int} (hu : U u) (hm : m ≤ 9223372036854775807) : U (chargeV u m) := by
  unfold chargeV
  by_cases c : m < 0
  · rw [if_pos c]; exact hu
  · rw [if_neg c]; exact capU (by have := (capU (v := m * 4294967296) (by omega)).1; have := hu.1; omega)
end Go.Proofs.YtgjjfnjnjnbfgaaDoor.L
