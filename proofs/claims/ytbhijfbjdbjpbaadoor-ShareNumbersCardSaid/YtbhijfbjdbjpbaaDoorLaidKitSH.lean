-- Laid by a program of this session (wip/tools/doorrow.py): the listed variable, from the row's condition to its cells; Lean checks it.
import Derived.Test.YtbhijfbjdbjpbaaDoorTie
import Derived.Test.YtbhijfbjdbjpbaaDoorGSHx2
import Derived.ProofKit
import Derived.LaidMore
import Derived.OpenShut
import Derived.ChangeArms
import Derived.Stop.Joined
namespace Go.Proofs.YtbhijfbjdbjpbaaDoor.LaidKit
open Go.ChangeShapes Go.WideShapes Go.ChangeAt Go.RowKit Go.Proofs.YtbhijfbjdbjpbaaDoor.GSH Go.Proofs.YtbhijfbjdbjpbaaDoorW.PrintWords
abbrev laidL {H : Type} : List (String × DataW H) := [("backfill/ladder.rungs", Rows.laid_backfill_ladder_rungs)]
theorem own : ownKnob Tryd.prog.godebug = none := by kernel_rfl
theorem gR : Tryd.prog.globalNamed "backfill/ladder.rungs" = some 0 := by kernel_rfl
theorem tR : (Tryd.prog.globals[0]?).map (·.type) = some 80 := by kernel_rfl
theorem door_met (os : Os) (args : Array Value) : laidMetH Tryd.prog laidL ((World.doorLaid Tryd.prog 14 os).forCall (fun _ _ => 0) ⟨#[], args, []⟩).memory :=
  laidMetH_of_parts3 (fuel := 8) (laidMet_of_run' 8 (by kernel_rfl) (by kernel_rfl)) (by kernel_rfl) (by kernel_rfl)
set_option maxRecDepth 100000 in
theorem of_laid {W : World} (h : laidMetH Tryd.prog laidL W) : LaidW W := by
  rw [MakeChecks.laidMetH_plain _ _ _ (by kernel_rfl)] at h
  obtain ⟨ps, ⟨g0, t0, cs0, f0, p0, q0, hg0, ht0, hv0, hd0, _, _⟩, _⟩ := h
  obtain rfl := Option.some.inj (gR.symm.trans hg0)
  obtain rfl := Option.some.inj (tR.symm.trans ht0)
  obtain ⟨xs, m1, rfl, hx1, hlen, hn, hel⟩ := DataW.trod_array Tryd.underlying80 hd0
  have c1 : Tryd.prog.cellsOf 25 = 1 := by kernel_rfl
  simp only [Prod.mk.injEq] at hx1
  have hxs : xs.map (·.1) = rungsL.map (fun n => DataW.lit (.int .u64 n)) := by
    have := hx1.1
    unfold Rows.laid_backfill_ladder_rungs at this
    injection this with this
    exact this.symm.trans rfl
  intro j hj
  have h1 := hel j hj
  rw [c1, Nat.mul_one] at h1
  have hxj : (xs[j]?).map (·.1) = some (DataW.lit (.int .u64 (rungsL.getD j 0))) := by
    rw [← List.getElem?_map, hxs, List.getElem?_map]
    have hlj : j < rungsL.length := by show j < 32; exact hj
    simp [List.getElem?_eq_getElem hlj, List.getD_eq_getElem?_getD]
  cases hxe : xs[j]? with
  | none => rw [hxe] at hxj; cases hxj
  | some x =>
    rw [hxe] at hxj h1
    simp only [Option.map_some, Option.some.injEq] at hxj
    obtain ⟨n, e1, e2, _⟩ := DataW.trod_int Tryd.underlying25 h1
    rw [e2] at hxj
    have hnj : n = rungsL.getD j 0 := by simpa using hxj
    have hcell := World.var?_cell hg0 hv0 j
    rw [hcell]
    have hg : cs0.toList[j]? = some (.int .u64 n) := by
      have := congrArg (fun l => l[0]?) e1
      simpa [List.getElem?_take, List.getElem?_drop] using this
    rw [← Array.getElem?_toList, hg, hnj]
    unfold rd
    rw [Int.toNat_natCast]
end Go.Proofs.YtbhijfbjdbjpbaaDoor.LaidKit
