-- Laid by a program of this session (wip/tools/aggrow.py): the row of the law ConfigLaws; Lean checks it.
import Derived.Test.YtcolhngdhlamkaaRows
import Derived.Test.YtcolhngdhlamkaaGCLx11
import Derived.Test.YtcolhngdhlamkaaPureConfigLaws
import Derived.WalkKit
import Derived.ProofKit
import Derived.OpenShut
import Derived.ShutString
import Derived.ChangeOld
import Derived.Below
import Derived.SizedLaws
import Derived.Lib.SmallJoins
import Derived.Test.YtcolhngdhlamkaaAgg8
namespace Go.Proofs.Ytcolhngdhlamkaa.configLaws
open Go.ChangeShapes Go.WideShapes Go.ChangeAt Go.RowKit Go.Joins
open Go.ChangeMaps (open_string shut_string)
set_option linter.unusedVariables false
theorem own : ownKnob Try.prog.godebug = none := by kernel_rfl
theorem cells39 : Try.prog.cellsOf 39 = 8 := by kernel_rfl
set_option maxRecDepth 100000 in
theorem lifted (os : Os) (started : os.Started) (H : Type) (enc : TypeId × Value → H) :
    ReturnsInHanded {} Try.checked os 6 .any (Rows.configLawsSpec.pre6 enc Try.prog Try.f6 Rows.configLawsRow.domain false) (Rows.configLawsSpec.post enc Try.prog Try.f6 false true false false) := by
  refine returnsInHanded_of_change_sized (C := Try.checked) own started (by kernel_rfl) Try.func6
    (ChangeSpec.witness6 (enc := enc) (C := Try.checked) false ⟨#[], #[.agg #[.int .i64 0, .int .i64 0, .int .i64 0, .int .i64 0, .int .i64 0, .int .i64 0, .int .i64 0, .int .i64 0]], []⟩ 8 (by kernel_rfl) (by kernel_rfl) (by kernel_rfl) (by kernel_rfl)) ?_
  intro W base args ds gs before hval0 hW hcnd hsz0 _
  have hsz : (DataW.weightsEach Try.prog (Try.f6.params.toList ++ Rows.configLawsSpec.plain.varTypes Try.prog) (ds ++ gs)).all (· ≤ reachBytes) = true := hsz0
  have hval : ∀ (j : Nat) t v, Try.f6.params[j]? = some t → args[j]? = some v → Value.okWide Try.prog W .any base t v := hval0
  have hW' := hW
  obtain ⟨p, q, hA0, hV, rfl, hfz, hnd⟩ := hW
  have hA : DataW.TrodAll enc Try.prog W 0 (fun _ => true) true Try.f6.params.toList args.toList ds p := hA0
  rw [Try.params6] at hA hval hsz
  obtain ⟨v0, vs0, d0, ds0, p0, q0, hargs, rfl, rfl, h0, r0⟩ := trodAll_cons hA
  obtain ⟨rfl, rfl, rfl⟩ := trodAll_nil r0
  obtain rfl : args = #[v0] := by cases args; simp_all
  obtain ⟨rfl, rfl⟩ := trodVars_none hV
  obtain ⟨c0_0, c0_1, c0_2, c0_3, c0_4, c0_5, c0_6, c0_7, y0_0, y0_1, y0_2, y0_3, y0_4, y0_5, y0_6, y0_7, m0, rfl, rfl, rfl, hy0_0, hy0_1, hy0_2, hy0_3, hy0_4, hy0_5, hy0_6, hy0_7⟩ := Agg.open_agg8 Try.underlying39 (by kernel_rfl) cells39 (hval 0 39 v0 rfl rfl) h0
  obtain ⟨a0_0, e0_0, rfl, w0_0⟩ := DataW.trod_int Try.underlying3 hy0_0
  obtain ⟨a0_1, e0_1, rfl, w0_1⟩ := DataW.trod_int Try.underlying3 hy0_1
  obtain ⟨a0_2, e0_2, rfl, w0_2⟩ := DataW.trod_int Try.underlying3 hy0_2
  obtain ⟨a0_3, e0_3, rfl, w0_3⟩ := DataW.trod_int Try.underlying3 hy0_3
  obtain ⟨a0_4, e0_4, rfl, w0_4⟩ := DataW.trod_int Try.underlying3 hy0_4
  obtain ⟨a0_5, e0_5, rfl, w0_5⟩ := DataW.trod_int Try.underlying3 hy0_5
  obtain ⟨a0_6, e0_6, rfl, w0_6⟩ := DataW.trod_int Try.underlying3 hy0_6
  obtain ⟨a0_7, e0_7, rfl, w0_7⟩ := DataW.trod_int Try.underlying3 hy0_7
  simp at e0_0 e0_1 e0_2 e0_3 e0_4 e0_5 e0_6 e0_7
  subst e0_0 e0_1 e0_2 e0_3 e0_4 e0_5 e0_6 e0_7
  have s0 : ∀ (W' : World) (sp : Nat → Bool), DataW.Trod enc Try.prog W' 0 sp true 39 (.agg #[.int .i64 a0_0, .int .i64 a0_1, .int .i64 a0_2, .int .i64 a0_3, .int .i64 a0_4, .int .i64 a0_5, .int .i64 a0_6, .int .i64 a0_7]) (.agg [.lit (.int .i64 a0_0), .lit (.int .i64 a0_1), .lit (.int .i64 a0_2), .lit (.int .i64 a0_3), .lit (.int .i64 a0_4), .lit (.int .i64 a0_5), .lit (.int .i64 a0_6), .lit (.int .i64 a0_7)]) [] := fun W' sp =>
    Agg.shut_agg8 (y0 := (.lit (.int .i64 a0_0), [])) (y1 := (.lit (.int .i64 a0_1), [])) (y2 := (.lit (.int .i64 a0_2), [])) (y3 := (.lit (.int .i64 a0_3), [])) (y4 := (.lit (.int .i64 a0_4), [])) (y5 := (.lit (.int .i64 a0_5), [])) (y6 := (.lit (.int .i64 a0_6), [])) (y7 := (.lit (.int .i64 a0_7), [])) Try.underlying39 (by kernel_rfl) cells39 1 (by simp [DataW.trod, Try.underlying3, w0_0]) (by simp [DataW.trod, Try.underlying3, w0_1]) (by simp [DataW.trod, Try.underlying3, w0_2]) (by simp [DataW.trod, Try.underlying3, w0_3]) (by simp [DataW.trod, Try.underlying3, w0_4]) (by simp [DataW.trod, Try.underlying3, w0_5]) (by simp [DataW.trod, Try.underlying3, w0_6]) (by simp [DataW.trod, Try.underlying3, w0_7])
  clear hA0 hval0 hsz0 hsz
  obtain ⟨k, hk⟩ := Pure.ConfigLaws a0_0 a0_1 a0_2 a0_3 a0_4 a0_5 a0_6 a0_7 w0_0 w0_1 w0_2 w0_3 w0_4 w0_5 w0_6 w0_7
  refine (GCL.backfilllaw11_ConfigLaws.calls k a0_0 a0_1 a0_2 a0_3 a0_4 a0_5 a0_6 a0_7 true W hk).mono fun e W' ⟨he, bel⟩ => ?_
  subst he
  exact ⟨_, rfl, _, _, _, [], _, [], hW', trodAll_mk1 (shut_bool Try.underlying4 _), (trodAll_cons_mk (s0 _ _) trodAll_mk0), rfl, bel.frame _, fun h => by cases h⟩
theorem over : Rows.configLawsRow.holds Try.pinned (OpenSpec.ofChange Rows.configLawsSpec) :=
  OpenClaim.holds_of_wide 6 Try.f6 rfl rfl rfl rfl rfl rfl rfl ⟨rfl, rfl, rfl, rfl, rfl⟩ rfl rfl rfl rfl rfl (by kernel_rfl) Try.func6 (by kernel_rfl)
    (of_decide_eq_true (by kernel_rfl)) (by unfold Func.isWrapper; first | (rw [if_pos (by decide +kernel)]; kernel_rfl) | (rw [if_neg (by decide +kernel)]; exact ⟨rfl, rfl⟩))
    (fun os started H enc _ => lifted os started H enc)
theorem proved : Rows.ConfigLawsSaid := over
#print axioms proved
end Go.Proofs.Ytcolhngdhlamkaa.configLaws
namespace Go.Proofs.Ytcolhngdhlamkaa
/-- The row, under a short name, for the claim. -/
theorem configLaws_holds : Rows.ConfigLawsSaid := configLaws.proved
end Go.Proofs.Ytcolhngdhlamkaa
