/- The tied card of the law ShareTells: it answers true at every input, and every argument reads behind the call as it read before. -/
import Derived.Test.YtbhijfbjdbjpbaaGreatDoorRows
import Derived.Test.YtbhijfbjdbjpbaaGreatDoorTie
import Derived.Test.YtbhijfbjdbjpbaaGreatDoorCards
import Derived.Test.YtbhijfbjdbjpbaaGreatDoorProg
import Derived.Test.YtbhijfbjdbjpbaaGreatDoorZ8
namespace Go.Proofs.YtbhijfbjdbjpbaaGreatDoor.shareTells
open Go.ChangeShapes Go.WideShapes Go.ChangeAt Go.RowKit Go.Proofs.YtbhijfbjdbjpbaaGreatDoor.LaidKit Go.Proofs.YtbhijfbjdbjpbaaGreatDoorW.PrintWords Go.Proofs.YtbhijfbjdbjpbaaGreatDoor.GSH
open Go.ChangeMaps (open_string shut_string)
set_option linter.unusedVariables false
theorem cells23 : Tryz.prog.cellsOf 23 = 8 := by kernel_rfl
theorem laidOut : laidOutB Tryz.prog = true := by kernel_rfl
def IsRow (k : IntKind) (w : World) (a : Option Addr) (len cap : Nat) (zs : List Int) : Prop :=
  (a = none ∧ len = 0 ∧ cap = 0 ∧ zs = []) ∨
  ∃ x, a = some x ∧ len ≤ cap ∧ cap ≤ maxLen ∧ zs.length = cap ∧ (∀ i, i < zs.length → w.cell? (x.add i) = some (.int k (zs.getD i 0))) ∧ ∀ n ∈ zs, (Lit.int k n).wf = true
theorem rowC {k : IntKind} {w : World} {a : Option Addr} {len cap : Nat} {zs : List Int} (h : IsRow k w a len cap zs) : ∃ l : List Int, len = l.length ∧ ReadsInt w k a l.length l ∧ l.length ≤ maxLen ∧ (∀ x ∈ l, (Lit.int k x).wf = true) ∧ l.length ≤ cap := by
  rcases h with ⟨rfl, rfl, rfl, rfl⟩ | ⟨x, rfl, hl, hm, hz, hc, hw⟩
  · exact ⟨[], rfl, ⟨rfl, by simp, fun h => absurd h (Nat.lt_irrefl 0)⟩, Nat.zero_le _, fun x hx => by simp at hx, Nat.le_refl _⟩
  · have e : (zs.take len).length = len := by simp; omega
    have hm' : len ≤ maxLen := Nat.le_trans hl hm
    refine ⟨zs.take len, e.symm, ⟨rfl, by rw [e]; simpa [maxLen] using hm', fun _ => ⟨x, rfl, fun j hj => ?_⟩⟩, by rw [e]; exact hm', fun y hy => hw y (List.mem_of_mem_take hy), by rw [e]; exact hl⟩
    rw [e] at hj
    rw [hc j (by omega)]
    simp [List.getD, List.getElem?_take, hj]
set_option maxRecDepth 100000 in
theorem lifted (os : Os) (started : os.Started) (H : Type) (enc : TypeId × Value → H) :
    ReturnsInHanded {} Tryz.checked os 3 .any (fun w args => (Rows.shareTellsSpec.pre enc Tryz.prog Tryz.f3 [] false w args ∧ laidMetH Tryz.prog laidL w) ∧ sizedMet enc Tryz.prog Tryz.f3 (OpenSpec.ofChange Rows.shareTellsSpec) false w args)
      (Rows.shareTellsSpec.post enc Tryz.prog Tryz.f3 false true false false) := by
  refine returnsInHanded_of_change_and (C := Tryz.checked) (X := fun w _ => laidMetH Tryz.prog laidL w) (fun _ _ _ hh h => h.of_heap hh) own started (by kernel_rfl) Tryz.func3
    (ChangeSpec.witness_shaped (enc := enc) (C := Tryz.checked) (os := os) (X := fun w _ => laidMetH Tryz.prog laidL w) false (World.doorLaid Tryz.prog 14 os) #[.agg #[.int .i64 0, .int .i64 0, .int .i64 0, .int .i64 0, .int .i64 0, .int .i64 0, .int .i64 0, .int .i64 0], .slice none 0 0, .slice none 0 0] 8 rfl (World.shaped_of_RefB (by kernel_rfl) (by kernel_rfl)) (by kernel_rfl) (by kernel_rfl) (by kernel_rfl) (door_met os _)) ?_
  intro W base args ds gs before hval0 hW hcnd hsz0 hL0 _
  have hsz : (DataW.weightsEach Tryz.prog (Tryz.f3.params.toList ++ Rows.shareTellsSpec.plain.varTypes Tryz.prog) (ds ++ gs)).all (· ≤ reachBytes) = true := hsz0
  have hval : ∀ (j : Nat) t v, Tryz.f3.params[j]? = some t → args[j]? = some v → Value.okWide Tryz.prog W .any base t v := hval0
  have hW' := hW
  have hL := of_laid hL0
  obtain ⟨p, q, hA0, hV, rfl, hfz, hnd⟩ := hW
  have hA : DataW.TrodAll enc Tryz.prog W 0 (fun _ => true) true Tryz.f3.params.toList args.toList ds p := hA0
  rw [Tryz.params3] at hA hval hsz
  obtain ⟨v0, vs0, d0, ds0, p0, q0, hargs, rfl, rfl, h0, r0⟩ := trodAll_cons hA
  obtain ⟨v1, vs1, d1, ds1, p1, q1, rfl, rfl, rfl, h1, r1⟩ := trodAll_cons r0
  obtain ⟨v2, vs2, d2, ds2, p2, q2, rfl, rfl, rfl, h2, r2⟩ := trodAll_cons r1
  obtain ⟨rfl, rfl, rfl⟩ := trodAll_nil r2
  obtain rfl : args = #[v0, v1, v2] := by cases args; simp_all
  obtain ⟨rfl, rfl⟩ := trodVars_none hV
  have k0 := h0
  have lt0 : ∀ x ∈ p0, x.block < W.heap.size := by obtain ⟨m, hm⟩ := k0; exact DataW.trod_lt m _ _ _ hm
  obtain ⟨c0_0, c0_1, c0_2, c0_3, c0_4, c0_5, c0_6, c0_7, y0_0, y0_1, y0_2, y0_3, y0_4, y0_5, y0_6, y0_7, m0, rfl, rfl, rfl, hy0_0, hy0_1, hy0_2, hy0_3, hy0_4, hy0_5, hy0_6, hy0_7⟩ := Agg.open_agg8 Tryz.underlying23 (by kernel_rfl) cells23 (hval 0 23 v0 rfl rfl) h0
  obtain ⟨a0_0, e0_0, ee0_0, w0_0⟩ := DataW.trod_int Tryz.underlying3 hy0_0
  simp at e0_0
  subst e0_0
  obtain ⟨a0_1, e0_1, ee0_1, w0_1⟩ := DataW.trod_int Tryz.underlying3 hy0_1
  simp at e0_1
  subst e0_1
  obtain ⟨a0_2, e0_2, ee0_2, w0_2⟩ := DataW.trod_int Tryz.underlying3 hy0_2
  simp at e0_2
  subst e0_2
  obtain ⟨a0_3, e0_3, ee0_3, w0_3⟩ := DataW.trod_int Tryz.underlying3 hy0_3
  simp at e0_3
  subst e0_3
  obtain ⟨a0_4, e0_4, ee0_4, w0_4⟩ := DataW.trod_int Tryz.underlying3 hy0_4
  simp at e0_4
  subst e0_4
  obtain ⟨a0_5, e0_5, ee0_5, w0_5⟩ := DataW.trod_int Tryz.underlying3 hy0_5
  simp at e0_5
  subst e0_5
  obtain ⟨a0_6, e0_6, ee0_6, w0_6⟩ := DataW.trod_int Tryz.underlying3 hy0_6
  simp at e0_6
  subst e0_6
  obtain ⟨a0_7, e0_7, ee0_7, w0_7⟩ := DataW.trod_int Tryz.underlying3 hy0_7
  simp at e0_7
  subst e0_7
  obtain ⟨a1, len1, cap1, rfl⟩ := okWide_slice Tryz.underlying24 (hval 1 24 v1 rfl rfl)
  have k1 := h1
  have lt1 : ∀ x ∈ p1, x.block < W.heap.size := by obtain ⟨m, hm⟩ := k1; exact DataW.trod_lt m _ _ _ hm
  obtain ⟨l1, x1, u1, y1⟩ := Go.Proofs.YtbhijfbjdbjpbaaGreatDoor.T.open_accs (j := 1) hsz rfl rfl h1
  obtain ⟨a2, len2, cap2, rfl⟩ := okWide_slice Tryz.underlying24 (hval 2 24 v2 rfl rfl)
  have k2 := h2
  have lt2 : ∀ x ∈ p2, x.block < W.heap.size := by obtain ⟨m, hm⟩ := k2; exact DataW.trod_lt m _ _ _ hm
  obtain ⟨l2, x2, u2, y2⟩ := Go.Proofs.YtbhijfbjdbjpbaaGreatDoor.T.open_accs (j := 2) hsz rfl rfl h2
  clear hA0 hval0 hsz0 hsz hL0
  refine (Go.Proofs.YtbhijfbjdbjpbaaGreatDoor.T.Tells_all W hL a0_0 w0_0 a0_1 w0_1 a0_2 w0_2 a0_3 w0_3 a0_4 w0_4 a0_5 w0_5 a0_6 w0_6 a0_7 w0_7 a1 len1 cap1 l1 x1 u1 y1 a2 len2 cap2 l2 x2 u2 y2).mono fun e W' ⟨he, bel⟩ => ?_
  subst he
  exact ⟨_, rfl, _, _, _, [], _, [], hW', trodAll_mk1 (shut_bool Tryz.underlying4 _), (trodAll_cons_mk (Below.trod laidOut (by kernel_rfl) (of_decide_eq_true (by kernel_rfl)) k0 bel lt0) (trodAll_cons_mk (Below.trod laidOut (by kernel_rfl) (of_decide_eq_true (by kernel_rfl)) k1 bel lt1) (trodAll_cons_mk (Below.trod laidOut (by kernel_rfl) (of_decide_eq_true (by kernel_rfl)) k2 bel lt2) trodAll_mk0))), rfl, bel.frame _, fun h => by cases h⟩
theorem over : Rows.shareTellsRow.holds Tryz.pinned (OpenSpec.ofChange Rows.shareTellsSpec) :=
  OpenClaim.holds_of_wide 3 Tryz.f3 rfl rfl rfl rfl rfl rfl rfl ⟨rfl, rfl, rfl, rfl, rfl⟩ rfl rfl rfl rfl rfl (by kernel_rfl) Tryz.func3 (by kernel_rfl)
    (of_decide_eq_true (by kernel_rfl)) (by unfold Func.isWrapper; first | (rw [if_pos (by decide +kernel)]; kernel_rfl) | (rw [if_neg (by decide +kernel)]; exact ⟨rfl, rfl⟩))
    (fun os started H enc _ => lifted os started H enc)
theorem proved : Rows.ShareTellsCardSaid :=
  Claim7.holds_tied_plain_at .later [] [.data] true (true, "ea428c284765214ec0b0d09c42e608f51d684e9ea8da8e3763c73867d8bc5bba") false
    over (fun _ h => by cases h) (by kernel_rfl) (fun _ h => by cases h) shareTells_row_tie rfl ⟨rfl, rfl⟩ (by kernel_rfl) rfl
    (fun f fn hf hfn => by
      obtain rfl : f = 3 := Option.some.inj ((show Tryz.prog.funcNamed "backfill/backfilllaw13.ShareTells" = some 3 by kernel_rfl).symm.trans hf) |>.symm
      obtain rfl : fn = Tryz.f3 := (Option.some.inj (Tryz.func3.symm.trans hfn)).symm
      exact ⟨by kernel_rfl, fun j t ht => by
        rw [Tryz.params3] at ht
        have hm : t ∈ [23, 24, 24] := by simpa using Array.mem_of_getElem? ht
        have hall : ([23, 24, 24].all fun u => !Tryz.prog.wantsStandIn u) = true := by kernel_rfl
        exact (show Tryz.prog.wantsStandIn t = false by simpa using List.all_eq_true.1 hall t hm)⟩)
    (by kernel_rfl)
#print axioms proved
end Go.Proofs.YtbhijfbjdbjpbaaGreatDoor.shareTells
namespace Go.Proofs.YtbhijfbjdbjpbaaGreatDoor
/-- The tied card, under a short name, for the claim. -/
theorem shareTells_holds : Rows.ShareTellsCardSaid := shareTells.proved
end Go.Proofs.YtbhijfbjdbjpbaaGreatDoor
