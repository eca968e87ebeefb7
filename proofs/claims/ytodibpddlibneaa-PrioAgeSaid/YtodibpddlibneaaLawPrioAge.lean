/- The law PrioAge answers true at every input, and every argument reads behind the call as it read before. No condition. -/
import Derived.Test.YtodibpddlibneaaRows
import Derived.Test.YtodibpddlibneaaQPTPrioA
import Derived.WalkKit
import Derived.ProofKit
import Derived.OpenShut
import Derived.ShutString
import Derived.ChangeOld
import Derived.Below
import Derived.SizedLaws
import Derived.Test.YtodibpddlibneaaAgg8
import Derived.Lib.SmallJoins
namespace Go.Proofs.Ytodibpddlibneaa.prioAge
open Go.ChangeShapes Go.WideShapes Go.ChangeAt Go.RowKit Go.Proofs.YtodibpddlibneaaW.PrintWords
open Go.ChangeMaps (open_string shut_string)
set_option linter.unusedVariables false
theorem own : ownKnob Try.prog.godebug = none := by kernel_rfl
theorem cells31 : Try.prog.cellsOf 31 = 8 := by kernel_rfl
theorem cells34 : Try.prog.cellsOf 34 = 8 := by kernel_rfl
theorem laidOut : laidOutB Try.prog = true := by kernel_rfl
def IsRow (k : IntKind) (w : World) (a : Option Addr) (len cap : Nat) (zs : List Int) : Prop :=
  (a = none ∧ len = 0 ∧ cap = 0 ∧ zs = []) ∨
  ∃ x, a = some x ∧ len ≤ cap ∧ cap ≤ maxLen ∧ zs.length = cap ∧ (∀ i, i < zs.length → w.cell? (x.add i) = some (.int k (zs.getD i 0))) ∧ ∀ n ∈ zs, (Lit.int k n).wf = true
theorem rowC {k : IntKind} {w : World} {a : Option Addr} {len cap : Nat} {zs : List Int} (h : IsRow k w a len cap zs) : ∃ l : List Int, len = l.length ∧ ReadsInt w k a l.length l ∧ l.length ≤ maxLen ∧ (∀ x ∈ l, (Lit.int k x).wf = true) ∧ l.length ≤ cap := by
  rcases h with ⟨rfl, rfl, rfl, rfl⟩ | ⟨x, rfl, hl, hm, hz, hc, hw⟩
  · exact ⟨[], rfl, ⟨rfl, by simp, fun h => absurd h (Nat.lt_irrefl 0)⟩, Nat.zero_le _, fun x hx => by simp at hx, Nat.le_refl _⟩
  · have e : (zs.take len).length = len := by simp; omega
    have hm' : len ≤ maxLen := Nat.le_trans hl hm
    refine ⟨zs.take len, e.symm, ⟨rfl, by rw [e]; simpa [maxLen] using hm', fun _ => ⟨x, rfl, fun j hj => ?_⟩⟩, by rw [e]; exact hm', fun y hy => hw y (List.mem_of_mem_take hy), by rw [e]; exact hl⟩
    rw [e] at hj
    rw [hc j (by omega)]
    simp [List.getD, List.getElem?_take, hj]
set_option maxRecDepth 100000 in
theorem lifted (os : Os) (started : os.Started) (H : Type) (enc : TypeId × Value → H) :
    ReturnsInHanded {} Try.checked os 5 .any (Rows.prioAgeSpec.pre6 enc Try.prog Try.f5 Rows.prioAgeRow.domain false) (Rows.prioAgeSpec.post enc Try.prog Try.f5 false true false false) := by
  refine returnsInHanded_of_change_sized (C := Try.checked) own started (by kernel_rfl) Try.func5
    (ChangeSpec.witness6 (enc := enc) (C := Try.checked) false ⟨#[], #[.agg #[.int .i64 0, .int .i64 0, .int .i64 0, .int .i64 0, .int .i64 0, .int .i64 0, .int .i64 0, .int .i64 0], .int .i64 0, .int .i64 0, .int .i64 0, .agg #[.int .i64 0, .int .i64 0, .int .i64 0, .int .i64 0, .int .i64 0, .int .i64 0, .int .i64 0, .slice none 0 0], .agg #[.int .i64 0, .int .i64 0, .int .i64 0, .int .i64 0, .int .i64 0, .int .i64 0, .int .i64 0, .slice none 0 0], .int .u64 0, .int .u64 0], []⟩ 8 (by kernel_rfl) (by kernel_rfl) (by kernel_rfl) (by kernel_rfl)) ?_
  intro W base args ds gs before hval0 hW hcnd hsz0 _
  have hsz : (DataW.weightsEach Try.prog (Try.f5.params.toList ++ Rows.prioAgeSpec.plain.varTypes Try.prog) (ds ++ gs)).all (· ≤ reachBytes) = true := hsz0
  have hval : ∀ (j : Nat) t v, Try.f5.params[j]? = some t → args[j]? = some v → Value.okWide Try.prog W .any base t v := hval0
  have hW' := hW
  obtain ⟨p, q, hA0, hV, rfl, hfz, hnd⟩ := hW
  have hA : DataW.TrodAll enc Try.prog W 0 (fun _ => true) true Try.f5.params.toList args.toList ds p := hA0
  rw [Try.params5] at hA hval hsz
  obtain ⟨v0, vs0, d0, ds0, p0, q0, hargs, rfl, rfl, h0, r0⟩ := trodAll_cons hA
  obtain ⟨v1, vs1, d1, ds1, p1, q1, rfl, rfl, rfl, h1, r1⟩ := trodAll_cons r0
  obtain ⟨v2, vs2, d2, ds2, p2, q2, rfl, rfl, rfl, h2, r2⟩ := trodAll_cons r1
  obtain ⟨v3, vs3, d3, ds3, p3, q3, rfl, rfl, rfl, h3, r3⟩ := trodAll_cons r2
  obtain ⟨v4, vs4, d4, ds4, p4, q4, rfl, rfl, rfl, h4, r4⟩ := trodAll_cons r3
  obtain ⟨v5, vs5, d5, ds5, p5, q5, rfl, rfl, rfl, h5, r5⟩ := trodAll_cons r4
  obtain ⟨v6, vs6, d6, ds6, p6, q6, rfl, rfl, rfl, h6, r6⟩ := trodAll_cons r5
  obtain ⟨v7, vs7, d7, ds7, p7, q7, rfl, rfl, rfl, h7, r7⟩ := trodAll_cons r6
  obtain ⟨rfl, rfl, rfl⟩ := trodAll_nil r7
  obtain rfl : args = #[v0, v1, v2, v3, v4, v5, v6, v7] := by cases args; simp_all
  obtain ⟨rfl, rfl⟩ := trodVars_none hV
  have k0 := h0
  have lt0 : ∀ x ∈ p0, x.block < W.heap.size := by obtain ⟨m, hm⟩ := k0; exact DataW.trod_lt m _ _ _ hm
  obtain ⟨c0_0, c0_1, c0_2, c0_3, c0_4, c0_5, c0_6, c0_7, y0_0, y0_1, y0_2, y0_3, y0_4, y0_5, y0_6, y0_7, m0, rfl, rfl, rfl, hy0_0, hy0_1, hy0_2, hy0_3, hy0_4, hy0_5, hy0_6, hy0_7⟩ := Agg.open_agg8 Try.underlying31 (by kernel_rfl) cells31 (hval 0 31 v0 rfl rfl) h0
  obtain ⟨a0_0, e0_0, ee0_0, w0_0⟩ := DataW.trod_int Try.underlying3 hy0_0
  simp at e0_0
  subst e0_0
  obtain ⟨a0_1, e0_1, ee0_1, w0_1⟩ := DataW.trod_int Try.underlying3 hy0_1
  simp at e0_1
  subst e0_1
  obtain ⟨a0_2, e0_2, ee0_2, w0_2⟩ := DataW.trod_int Try.underlying3 hy0_2
  simp at e0_2
  subst e0_2
  obtain ⟨a0_3, e0_3, ee0_3, w0_3⟩ := DataW.trod_int Try.underlying3 hy0_3
  simp at e0_3
  subst e0_3
  obtain ⟨a0_4, e0_4, ee0_4, w0_4⟩ := DataW.trod_int Try.underlying3 hy0_4
  simp at e0_4
  subst e0_4
  obtain ⟨a0_5, e0_5, ee0_5, w0_5⟩ := DataW.trod_int Try.underlying3 hy0_5
  simp at e0_5
  subst e0_5
  obtain ⟨a0_6, e0_6, ee0_6, w0_6⟩ := DataW.trod_int Try.underlying3 hy0_6
  simp at e0_6
  subst e0_6
  obtain ⟨a0_7, e0_7, ee0_7, w0_7⟩ := DataW.trod_int Try.underlying3 hy0_7
  simp at e0_7
  subst e0_7
  obtain ⟨a1, rfl, rfl, rfl, w1⟩ := open_int Try.underlying3 (hval 1 3 v1 rfl rfl) h1
  obtain ⟨a2, rfl, rfl, rfl, w2⟩ := open_int Try.underlying3 (hval 2 3 v2 rfl rfl) h2
  obtain ⟨a3, rfl, rfl, rfl, w3⟩ := open_int Try.underlying3 (hval 3 3 v3 rfl rfl) h3
  have k4 := h4
  have lt4 : ∀ x ∈ p4, x.block < W.heap.size := by obtain ⟨m, hm⟩ := k4; exact DataW.trod_lt m _ _ _ hm
  obtain ⟨c4_0, c4_1, c4_2, c4_3, c4_4, c4_5, c4_6, c4_7, y4_0, y4_1, y4_2, y4_3, y4_4, y4_5, y4_6, y4_7, m4, rfl, rfl, rfl, hy4_0, hy4_1, hy4_2, hy4_3, hy4_4, hy4_5, hy4_6, hy4_7⟩ := Agg.open_agg8 Try.underlying34 (by kernel_rfl) cells34 (hval 4 34 v4 rfl rfl) h4
  obtain ⟨a4_0, e4_0, ee4_0, w4_0⟩ := DataW.trod_int Try.underlying3 hy4_0
  simp at e4_0
  subst e4_0
  obtain ⟨a4_1, e4_1, ee4_1, w4_1⟩ := DataW.trod_int Try.underlying3 hy4_1
  simp at e4_1
  subst e4_1
  obtain ⟨a4_2, e4_2, ee4_2, w4_2⟩ := DataW.trod_int Try.underlying3 hy4_2
  simp at e4_2
  subst e4_2
  obtain ⟨a4_3, e4_3, ee4_3, w4_3⟩ := DataW.trod_int Try.underlying3 hy4_3
  simp at e4_3
  subst e4_3
  obtain ⟨a4_4, e4_4, ee4_4, w4_4⟩ := DataW.trod_int Try.underlying3 hy4_4
  simp at e4_4
  subst e4_4
  obtain ⟨a4_5, e4_5, ee4_5, w4_5⟩ := DataW.trod_int Try.underlying3 hy4_5
  simp at e4_5
  subst e4_5
  obtain ⟨a4_6, e4_6, ee4_6, w4_6⟩ := DataW.trod_int Try.underlying3 hy4_6
  simp at e4_6
  subst e4_6
  obtain ⟨A4_7, n4_7, cp4_7, zz4_7, rfl, ww4_7⟩ : ∃ A n cp zs, c4_7 = .slice A n cp ∧ IsRow .i64 W A n cp zs := by
    rcases open_ints Try.underlying32 Try.underlying3 (by kernel_rfl) hy4_7 with ⟨hcs, _⟩ | ⟨x, l, c, zs, hcs, _, hl, hm, hz, _, hcell, hwz⟩
    · simp at hcs
      subst hcs
      exact ⟨none, 0, 0, [], rfl, .inl ⟨rfl, rfl, rfl, rfl⟩⟩
    · simp at hcs
      subst hcs
      exact ⟨_, _, _, zs, rfl, .inr ⟨_, rfl, hl, hm, by simpa using hz, hcell, hwz⟩⟩
  obtain ⟨l4_7, rfl, x4_7, mm4_7, u4_7, g4_7⟩ := rowC ww4_7
  have k5 := h5
  have lt5 : ∀ x ∈ p5, x.block < W.heap.size := by obtain ⟨m, hm⟩ := k5; exact DataW.trod_lt m _ _ _ hm
  obtain ⟨c5_0, c5_1, c5_2, c5_3, c5_4, c5_5, c5_6, c5_7, y5_0, y5_1, y5_2, y5_3, y5_4, y5_5, y5_6, y5_7, m5, rfl, rfl, rfl, hy5_0, hy5_1, hy5_2, hy5_3, hy5_4, hy5_5, hy5_6, hy5_7⟩ := Agg.open_agg8 Try.underlying34 (by kernel_rfl) cells34 (hval 5 34 v5 rfl rfl) h5
  obtain ⟨a5_0, e5_0, ee5_0, w5_0⟩ := DataW.trod_int Try.underlying3 hy5_0
  simp at e5_0
  subst e5_0
  obtain ⟨a5_1, e5_1, ee5_1, w5_1⟩ := DataW.trod_int Try.underlying3 hy5_1
  simp at e5_1
  subst e5_1
  obtain ⟨a5_2, e5_2, ee5_2, w5_2⟩ := DataW.trod_int Try.underlying3 hy5_2
  simp at e5_2
  subst e5_2
  obtain ⟨a5_3, e5_3, ee5_3, w5_3⟩ := DataW.trod_int Try.underlying3 hy5_3
  simp at e5_3
  subst e5_3
  obtain ⟨a5_4, e5_4, ee5_4, w5_4⟩ := DataW.trod_int Try.underlying3 hy5_4
  simp at e5_4
  subst e5_4
  obtain ⟨a5_5, e5_5, ee5_5, w5_5⟩ := DataW.trod_int Try.underlying3 hy5_5
  simp at e5_5
  subst e5_5
  obtain ⟨a5_6, e5_6, ee5_6, w5_6⟩ := DataW.trod_int Try.underlying3 hy5_6
  simp at e5_6
  subst e5_6
  obtain ⟨A5_7, n5_7, cp5_7, zz5_7, rfl, ww5_7⟩ : ∃ A n cp zs, c5_7 = .slice A n cp ∧ IsRow .i64 W A n cp zs := by
    rcases open_ints Try.underlying32 Try.underlying3 (by kernel_rfl) hy5_7 with ⟨hcs, _⟩ | ⟨x, l, c, zs, hcs, _, hl, hm, hz, _, hcell, hwz⟩
    · simp at hcs
      subst hcs
      exact ⟨none, 0, 0, [], rfl, .inl ⟨rfl, rfl, rfl, rfl⟩⟩
    · simp at hcs
      subst hcs
      exact ⟨_, _, _, zs, rfl, .inr ⟨_, rfl, hl, hm, by simpa using hz, hcell, hwz⟩⟩
  obtain ⟨l5_7, rfl, x5_7, mm5_7, u5_7, g5_7⟩ := rowC ww5_7
  obtain ⟨a6, rfl, rfl, rfl, w6⟩ := open_int Try.underlying35 (hval 6 35 v6 rfl rfl) h6
  obtain ⟨a7, rfl, rfl, rfl, w7⟩ := open_int Try.underlying35 (hval 7 35 v7 rfl rfl) h7
  clear hA0 hval0 hsz0 hsz
  refine (Go.Proofs.Ytodibpddlibneaa.Q.age_calls W a0_0 w0_0 a0_1 w0_1 a0_2 w0_2 a0_3 w0_3 a0_4 w0_4 a0_5 w0_5 a0_6 w0_6 a0_7 w0_7 a1 w1 a2 w2 a3 w3 a4_0 w4_0 a4_1 w4_1 a4_2 w4_2 a4_3 w4_3 a4_4 w4_4 a4_5 w4_5 a4_6 w4_6 A4_7 cp4_7 l4_7 x4_7 g4_7 u4_7 a5_0 w5_0 a5_1 w5_1 a5_2 w5_2 a5_3 w5_3 a5_4 w5_4 a5_5 w5_5 a5_6 w5_6 A5_7 cp5_7 l5_7 x5_7 g5_7 u5_7 a6 w6 a7 w7).mono fun e W' ⟨he, bel⟩ => ?_
  subst he
  exact ⟨_, rfl, _, _, _, [], _, [], hW', trodAll_mk1 (shut_bool Try.underlying4 _), (trodAll_cons_mk (Below.trod laidOut (by kernel_rfl) (of_decide_eq_true (by kernel_rfl)) k0 bel lt0) (trodAll_cons_mk (shut_int Try.underlying3 w1) (trodAll_cons_mk (shut_int Try.underlying3 w2) (trodAll_cons_mk (shut_int Try.underlying3 w3) (trodAll_cons_mk (Below.trod laidOut (by kernel_rfl) (of_decide_eq_true (by kernel_rfl)) k4 bel lt4) (trodAll_cons_mk (Below.trod laidOut (by kernel_rfl) (of_decide_eq_true (by kernel_rfl)) k5 bel lt5) (trodAll_cons_mk (shut_int Try.underlying35 w6) (trodAll_cons_mk (shut_int Try.underlying35 w7) trodAll_mk0)))))))), rfl, bel.frame _, fun h => by cases h⟩
theorem over : Rows.prioAgeRow.holds Try.pinned (OpenSpec.ofChange Rows.prioAgeSpec) :=
  OpenClaim.holds_of_wide 5 Try.f5 rfl rfl rfl rfl rfl rfl rfl ⟨rfl, rfl, rfl, rfl, rfl⟩ rfl rfl rfl rfl rfl (by kernel_rfl) Try.func5 (by kernel_rfl)
    (of_decide_eq_true (by kernel_rfl)) (by unfold Func.isWrapper; first | (rw [if_pos (by decide +kernel)]; kernel_rfl) | (rw [if_neg (by decide +kernel)]; exact ⟨rfl, rfl⟩))
    (fun os started H enc _ => lifted os started H enc)
theorem proved : Rows.PrioAgeSaid := over
#print axioms proved
end Go.Proofs.Ytodibpddlibneaa.prioAge
namespace Go.Proofs.Ytodibpddlibneaa
/-- The row, under a short name, for the claim. -/
theorem prioAge_holds : Rows.PrioAgeSaid := prioAge.proved
end Go.Proofs.Ytodibpddlibneaa
