/- The law PrioTells answers true at every input, and every argument reads behind the call as it read before. No condition. -/
import Derived.Test.YtodibpddlibneaaRows
import Derived.Test.YtodibpddlibneaaQPTPrioT
import Derived.WalkKit
import Derived.ProofKit
import Derived.OpenShut
import Derived.ShutString
import Derived.ChangeOld
import Derived.Below
import Derived.SizedLaws
import Derived.Test.YtodibpddlibneaaAgg8
import Derived.Lib.SmallJoins
namespace Go.Proofs.Ytodibpddlibneaa.prioTells
open Go.ChangeShapes Go.WideShapes Go.ChangeAt Go.RowKit Go.Proofs.YtodibpddlibneaaW.PrintWords
open Go.ChangeMaps (open_string shut_string)
set_option linter.unusedVariables false
theorem own : ownKnob Try.prog.godebug = none := by kernel_rfl
theorem cells31 : Try.prog.cellsOf 31 = 8 := by kernel_rfl
theorem cells34 : Try.prog.cellsOf 34 = 8 := by kernel_rfl
theorem laidOut : laidOutB Try.prog = true := by kernel_rfl
def IsRow (k : IntKind) (w : World) (a : Option Addr) (len cap : Nat) (zs : List Int) : Prop :=
  (a = none ∧ len = 0 ∧ cap = 0 ∧ zs = []) ∨
  ∃ x, a = some x ∧ len ≤ cap ∧ cap ≤ maxLen ∧ zs.length = cap ∧ (∀ i, i < zs.length → w.cell? (x.add i) = some (.int k (zs.getD i 0))) ∧ ∀ n ∈ zs, (Lit.int k n).wf = true
theorem rowC {k : IntKind} {w : World} {a : Option Addr} {len cap : Nat} {zs : List Int} (h : IsRow k w a len cap zs) : ∃ l : List Int, len = l.length ∧ ReadsInt w k a l.length l ∧ l.length ≤ maxLen ∧ (∀ x ∈ l, (Lit.int k x).wf = true) ∧ l.length ≤ cap := by
  rcases h with ⟨rfl, rfl, rfl, rfl⟩ | ⟨x, rfl, hl, hm, hz, hc, hw⟩
  · exact ⟨[], rfl, ⟨rfl, by simp, fun h => absurd h (Nat.lt_irrefl 0)⟩, Nat.zero_le _, fun x hx => by simp at hx, Nat.le_refl _⟩
  · have e : (zs.take len).length = len := by simp; omega
    have hm' : len ≤ maxLen := Nat.le_trans hl hm
    refine ⟨zs.take len, e.symm, ⟨rfl, by rw [e]; simpa [maxLen] using hm', fun _ => ⟨x, rfl, fun j hj => ?_⟩⟩, by rw [e]; exact hm', fun y hy => hw y (List.mem_of_mem_take hy), by rw [e]; exact hl⟩
    rw [e] at hj
    rw [hc j (by omega)]
    simp [List.getD, List.getElem?_take, hj]
set_option maxRecDepth 100000 in
theorem lifted (os : Os) (started : os.Started) (H : Type) (enc : TypeId × Value → H) :
    ReturnsInHanded {} Try.checked os 4 .any (Rows.prioTellsSpec.pre6 enc Try.prog Try.f4 Rows.prioTellsRow.domain false) (Rows.prioTellsSpec.post enc Try.prog Try.f4 false true false false) := by
  refine returnsInHanded_of_change_sized (C := Try.checked) own started (by kernel_rfl) Try.func4
    (ChangeSpec.witness6 (enc := enc) (C := Try.checked) false ⟨#[], #[.agg #[.int .i64 0, .int .i64 0, .int .i64 0, .int .i64 0, .int .i64 0, .int .i64 0, .int .i64 0, .int .i64 0], .int .i64 0, .agg #[.int .i64 0, .int .i64 0, .int .i64 0, .int .i64 0, .int .i64 0, .int .i64 0, .int .i64 0, .slice none 0 0], .int .u64 0], []⟩ 8 (by kernel_rfl) (by kernel_rfl) (by kernel_rfl) (by kernel_rfl)) ?_
  intro W base args ds gs before hval0 hW hcnd hsz0 _
  have hsz : (DataW.weightsEach Try.prog (Try.f4.params.toList ++ Rows.prioTellsSpec.plain.varTypes Try.prog) (ds ++ gs)).all (· ≤ reachBytes) = true := hsz0
  have hval : ∀ (j : Nat) t v, Try.f4.params[j]? = some t → args[j]? = some v → Value.okWide Try.prog W .any base t v := hval0
  have hW' := hW
  obtain ⟨p, q, hA0, hV, rfl, hfz, hnd⟩ := hW
  have hA : DataW.TrodAll enc Try.prog W 0 (fun _ => true) true Try.f4.params.toList args.toList ds p := hA0
  rw [Try.params4] at hA hval hsz
  obtain ⟨v0, vs0, d0, ds0, p0, q0, hargs, rfl, rfl, h0, r0⟩ := trodAll_cons hA
  obtain ⟨v1, vs1, d1, ds1, p1, q1, rfl, rfl, rfl, h1, r1⟩ := trodAll_cons r0
  obtain ⟨v2, vs2, d2, ds2, p2, q2, rfl, rfl, rfl, h2, r2⟩ := trodAll_cons r1
  obtain ⟨v3, vs3, d3, ds3, p3, q3, rfl, rfl, rfl, h3, r3⟩ := trodAll_cons r2
  obtain ⟨rfl, rfl, rfl⟩ := trodAll_nil r3
  obtain rfl : args = #[v0, v1, v2, v3] := by cases args; simp_all
  obtain ⟨rfl, rfl⟩ := trodVars_none hV
  have k0 := h0
  have lt0 : ∀ x ∈ p0, x.block < W.heap.size := by obtain ⟨m, hm⟩ := k0; exact DataW.trod_lt m _ _ _ hm
  obtain ⟨c0_0, c0_1, c0_2, c0_3, c0_4, c0_5, c0_6, c0_7, y0_0, y0_1, y0_2, y0_3, y0_4, y0_5, y0_6, y0_7, m0, rfl, rfl, rfl, hy0_0, hy0_1, hy0_2, hy0_3, hy0_4, hy0_5, hy0_6, hy0_7⟩ := Agg.open_agg8 Try.underlying31 (by kernel_rfl) cells31 (hval 0 31 v0 rfl rfl) h0
  obtain ⟨a0_0, e0_0, ee0_0, w0_0⟩ := DataW.trod_int Try.underlying3 hy0_0
  simp at e0_0
  subst e0_0
  obtain ⟨a0_1, e0_1, ee0_1, w0_1⟩ := DataW.trod_int Try.underlying3 hy0_1
  simp at e0_1
  subst e0_1
  obtain ⟨a0_2, e0_2, ee0_2, w0_2⟩ := DataW.trod_int Try.underlying3 hy0_2
  simp at e0_2
  subst e0_2
  obtain ⟨a0_3, e0_3, ee0_3, w0_3⟩ := DataW.trod_int Try.underlying3 hy0_3
  simp at e0_3
  subst e0_3
  obtain ⟨a0_4, e0_4, ee0_4, w0_4⟩ := DataW.trod_int Try.underlying3 hy0_4
  simp at e0_4
  subst e0_4
  obtain ⟨a0_5, e0_5, ee0_5, w0_5⟩ := DataW.trod_int Try.underlying3 hy0_5
  simp at e0_5
  subst e0_5
  obtain ⟨a0_6, e0_6, ee0_6, w0_6⟩ := DataW.trod_int Try.underlying3 hy0_6
  simp at e0_6
  subst e0_6
  obtain ⟨a0_7, e0_7, ee0_7, w0_7⟩ := DataW.trod_int Try.underlying3 hy0_7
  simp at e0_7
  subst e0_7
  obtain ⟨a1, rfl, rfl, rfl, w1⟩ := open_int Try.underlying3 (hval 1 3 v1 rfl rfl) h1
  have k2 := h2
  have lt2 : ∀ x ∈ p2, x.block < W.heap.size := by obtain ⟨m, hm⟩ := k2; exact DataW.trod_lt m _ _ _ hm
  obtain ⟨c2_0, c2_1, c2_2, c2_3, c2_4, c2_5, c2_6, c2_7, y2_0, y2_1, y2_2, y2_3, y2_4, y2_5, y2_6, y2_7, m2, rfl, rfl, rfl, hy2_0, hy2_1, hy2_2, hy2_3, hy2_4, hy2_5, hy2_6, hy2_7⟩ := Agg.open_agg8 Try.underlying34 (by kernel_rfl) cells34 (hval 2 34 v2 rfl rfl) h2
  obtain ⟨a2_0, e2_0, ee2_0, w2_0⟩ := DataW.trod_int Try.underlying3 hy2_0
  simp at e2_0
  subst e2_0
  obtain ⟨a2_1, e2_1, ee2_1, w2_1⟩ := DataW.trod_int Try.underlying3 hy2_1
  simp at e2_1
  subst e2_1
  obtain ⟨a2_2, e2_2, ee2_2, w2_2⟩ := DataW.trod_int Try.underlying3 hy2_2
  simp at e2_2
  subst e2_2
  obtain ⟨a2_3, e2_3, ee2_3, w2_3⟩ := DataW.trod_int Try.underlying3 hy2_3
  simp at e2_3
  subst e2_3
  obtain ⟨a2_4, e2_4, ee2_4, w2_4⟩ := DataW.trod_int Try.underlying3 hy2_4
  simp at e2_4
  subst e2_4
  obtain ⟨a2_5, e2_5, ee2_5, w2_5⟩ := DataW.trod_int Try.underlying3 hy2_5
  simp at e2_5
  subst e2_5
  obtain ⟨a2_6, e2_6, ee2_6, w2_6⟩ := DataW.trod_int Try.underlying3 hy2_6
  simp at e2_6
  subst e2_6
  obtain ⟨A2_7, n2_7, cp2_7, zz2_7, rfl, ww2_7⟩ : ∃ A n cp zs, c2_7 = .slice A n cp ∧ IsRow .i64 W A n cp zs := by
    rcases open_ints Try.underlying32 Try.underlying3 (by kernel_rfl) hy2_7 with ⟨hcs, _⟩ | ⟨x, l, c, zs, hcs, _, hl, hm, hz, _, hcell, hwz⟩
    · simp at hcs
      subst hcs
      exact ⟨none, 0, 0, [], rfl, .inl ⟨rfl, rfl, rfl, rfl⟩⟩
    · simp at hcs
      subst hcs
      exact ⟨_, _, _, zs, rfl, .inr ⟨_, rfl, hl, hm, by simpa using hz, hcell, hwz⟩⟩
  obtain ⟨l2_7, rfl, x2_7, mm2_7, u2_7, g2_7⟩ := rowC ww2_7
  obtain ⟨a3, rfl, rfl, rfl, w3⟩ := open_int Try.underlying35 (hval 3 35 v3 rfl rfl) h3
  clear hA0 hval0 hsz0 hsz
  refine (Go.Proofs.Ytodibpddlibneaa.Q.tells_calls W a0_0 w0_0 a0_1 w0_1 a0_2 w0_2 a0_3 w0_3 a0_4 w0_4 a0_5 w0_5 a0_6 w0_6 a0_7 w0_7 a1 w1 a2_0 w2_0 a2_1 w2_1 a2_2 w2_2 a2_3 w2_3 a2_4 w2_4 a2_5 w2_5 a2_6 w2_6 A2_7 cp2_7 l2_7 x2_7 g2_7 u2_7 a3 w3).mono fun e W' ⟨he, bel⟩ => ?_
  subst he
  exact ⟨_, rfl, _, _, _, [], _, [], hW', trodAll_mk1 (shut_bool Try.underlying4 _), (trodAll_cons_mk (Below.trod laidOut (by kernel_rfl) (of_decide_eq_true (by kernel_rfl)) k0 bel lt0) (trodAll_cons_mk (shut_int Try.underlying3 w1) (trodAll_cons_mk (Below.trod laidOut (by kernel_rfl) (of_decide_eq_true (by kernel_rfl)) k2 bel lt2) (trodAll_cons_mk (shut_int Try.underlying35 w3) trodAll_mk0)))), rfl, bel.frame _, fun h => by cases h⟩
theorem over : Rows.prioTellsRow.holds Try.pinned (OpenSpec.ofChange Rows.prioTellsSpec) :=
  OpenClaim.holds_of_wide 4 Try.f4 rfl rfl rfl rfl rfl rfl rfl ⟨rfl, rfl, rfl, rfl, rfl⟩ rfl rfl rfl rfl rfl (by kernel_rfl) Try.func4 (by kernel_rfl)
    (of_decide_eq_true (by kernel_rfl)) (by unfold Func.isWrapper; first | (rw [if_pos (by decide +kernel)]; kernel_rfl) | (rw [if_neg (by decide +kernel)]; exact ⟨rfl, rfl⟩))
    (fun os started H enc _ => lifted os started H enc)
theorem proved : Rows.PrioTellsSaid := over
#print axioms proved
end Go.Proofs.Ytodibpddlibneaa.prioTells
namespace Go.Proofs.Ytodibpddlibneaa
/-- The row, under a short name, for the claim. -/
theorem prioTells_holds : Rows.PrioTellsSaid := prioTells.proved
end Go.Proofs.Ytodibpddlibneaa
