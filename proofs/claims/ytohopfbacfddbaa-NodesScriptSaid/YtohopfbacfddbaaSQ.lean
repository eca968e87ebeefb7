/- One step at both machines: one becomes a clone of the other. Conditions: each theorem's own. -/
import Derived.Test.YtohopfbacfddbaaSK
namespace Go.Proofs.Ytohopfbacfddbaa.S
open Go.RowKit Go.Proofs.YtohopfbacfddbaaW.PrintWords Go.Proofs.YtohopfbacfddbaaW.PrintLast Go.Proofs.Ytohopfbacfddbaa.H
open Go.Proofs.Ytohopfbacfddbaa.N hiding gb_setCell gb_drewN gb_drew gb_refl gb_any gb_of_below below_of_gb below_gb own_open ne_of_ge cut_at
set_option linter.unusedVariables false
set_option linter.unusedSimpArgs false
theorem st2_cell {w : World} {p : Nat} {v0 v1 v : Value} {a : Addr} (h : w.cell? a = some v) (hne : a.block ≠ p) : ((w.setCell ⟨p, 0, none⟩ v0).setCell ⟨p, 1, none⟩ v1).cell? a = some v :=
  cell_tn h ((Tn.set p 0 v0 (F := fun i => i = p) rfl).trans' (Tn.set p 1 v1 (F := fun i => i = p) rfl)) hne
theorem clone_new (w : World) (g n : Nat) (t : Nat → Nat) (h : SetAt w g n t) :
    Calls Try.prog 31 #[.pointer (some ⟨g, 0, none⟩)] w fun e w' => ∃ g', e = .returned (.pointer (some ⟨g', 0, none⟩)) ∧ w.heap.size ≤ g' ∧ SetAt w' g' n t ∧ w.grownBy w' none := by
  refine (Clone_calls w g n t h).mono ?_
  rintro e w' ⟨rfl, h1, h2⟩
  exact ⟨_, rfl, Nat.le_refl _, h1, h2⟩
theorem Lt.box {w W W2 : World} {f f1 : Nat → Int} {T : Int → Prop} {b : Nat} (hl : Lt w f W f1 T) (hb : w.heap.size ≤ b) (hT : Tn W W2 (fun i => i = b)) : Lt w f W2 f1 T :=
  ⟨hl.tn.trans hT (fun i hi e => by omega), hl.lab⟩
set_option maxHeartbeats 8000000 in
set_option maxRecDepth 100000 in
theorem step_clone (w : World) (P h : Nat) (f : Nat → Int) (c d : Int) (p o : Pr) (OA : Option Addr) (oc : Nat) (WA : Option Addr) (wc : Nat) (os ws : List Sl) (hs : St w P f c d p o h OA oc WA wc os ws) (sec : Bool) (N : Int) (LA : Option Addr) (ln lc : Nat) :
    Calls Try.prog 16 #[p.val, o.val, .pointer (some ⟨h, 0, none⟩), .agg #[.bool sec, .int .i64 5, .int .i64 N, .slice LA ln lc]] w (StepI w P f c d o h os) := by
  obtain ⟨f1, hf1⟩ : ∃ f1 : Nat → Int, f1 = fun i => if i < w.heap.size then f i else -100 := ⟨_, rfl⟩
  obtain ⟨hbx, hg⟩ := step_boxes w f p o sec 5 N LA ln lc
  rw [← hf1] at hbx
  have HL0 := Aside0.mk (show Lt w f ((((w.alloc (.cells #[.pointer (some ⟨p.g, 0, none⟩), .pointer (some ⟨p.r, 0, none⟩)] 45)).alloc (.cells #[.pointer (some ⟨o.g, 0, none⟩), .pointer (some ⟨o.r, 0, none⟩)] 45)).alloc (.cells #[.bool sec, .int .i64 5, .int .i64 N, .slice LA ln lc] 47)).alloc (.cells #[.pointer none, .pointer none] 45)) f1 (fun _ => False) from ⟨Tn.gb0 hg _, fun i hi => by rw [hf1]; exact if_pos hi⟩)
  have HS0 := Aside0.mk (hs.lt HL0.out (fun _ h => h.elim))
  have HBX := Aside0.mk hbx
  have HZ4 : Aside0 (w.heap.size ≤ w.heap.size) := ⟨Nat.le_refl _⟩
  have HZ8 : Aside0 (w.heap.size ≤ w.heap.size + 1 + 1 + 1) := ⟨by omega⟩
  clear hs hbx hg hf1
  unfold Pr.val
  go_enter Try.func16, Try.ntmps16
  go_upto_region 1 with (fail)
  generalize ((((w.alloc (.cells #[.pointer (some ⟨p.g, 0, none⟩), .pointer (some ⟨p.r, 0, none⟩)] 45)).alloc (.cells #[.pointer (some ⟨o.g, 0, none⟩), .pointer (some ⟨o.r, 0, none⟩)] 45)).alloc (.cells #[.bool sec, .int .i64 5, .int .i64 N, .slice LA ln lc] 47)).alloc (.cells #[.pointer none, .pointer none] 45)) = W at HBX HL0 HS0 ⊢
  generalize hb8 : w.heap.size + 1 + 1 + 1 = b8 at HBX HZ8 ⊢
  generalize hb7 : w.heap.size + 1 + 1 = b7 at HBX ⊢
  generalize hb5 : w.heap.size + 1 = b5 at HBX ⊢
  obtain ⟨b4, hb4⟩ : ∃ b4, b4 = w.heap.size := ⟨_, rfl⟩
  rw [← hb4] at HBX ⊢
  rw [← hb4] at HZ4
  have HZ4 : Aside0 (w.heap.size ≤ b4) := ⟨by omega⟩
  clear hb8 hb7 hb5 hb4
  have cp0 := cell_of (j := 0) (v := .pointer (some ⟨p.g, 0, none⟩)) HBX.out.h4 rfl
  have cp1 := cell_of (j := 1) (v := .pointer (some ⟨p.r, 0, none⟩)) HBX.out.h4 rfl
  have co0 := cell_of (j := 0) (v := .pointer (some ⟨o.g, 0, none⟩)) HBX.out.h5 rfl
  have co1 := cell_of (j := 1) (v := .pointer (some ⟨o.r, 0, none⟩)) HBX.out.h5 rfl
  have cx1 := cell_of (j := 1) (v := .int .i64 5) HBX.out.h7 rfl
  have cx2 := cell_of (j := 2) (v := .int .i64 N) HBX.out.h7 rfl
  have cx3 := cell_of (j := 3) (v := .slice LA ln lc) HBX.out.h7 rfl
  have cr0 := cell_of (j := 0) (v := .pointer none) HBX.out.h8 rfl
  have cr1 := cell_of (j := 1) (v := .pointer none) HBX.out.h8 rfl
  have fr0 := frozen_of (j := 0) HBX.out.h8
  have fr1 := frozen_of (j := 1) HBX.out.h8
  have HLd := Aside0.mk (show Lt W f1 W.drew f1 (fun _ => False) from Lt.gb (gb_drew W none))
  have HSd := Aside0.mk (HS0.out.lt HLd.out (fun _ h => h.elim))
  have HBd := Aside0.mk (HBX.out.lt HLd.out (fun h => h))
  have HTd := Aside0.mk ((HL0.out.trans HLd.out).mono (U := TT c) (fun _ h => h.elim))
  have HCD := Aside0.mk HS0.out.cd
  have HSe := Aside0.mk HSd.out
  have HBe := Aside0.mk HBd.out
  have HTe := Aside0.mk HTd.out
  go_wp2_with fail
  refine start_ (n := 8) (S := fun w' => w'.cell? ⟨b5, 0, none⟩ = some (.pointer (some ⟨o.g, 0, none⟩)) ∧ w'.cell? ⟨b5, 1, none⟩ = some (.pointer (some ⟨o.r, 0, none⟩))) (ds := [7]) #[false, false, false, false, false, false, false, false] (by kernel_rfl) rfl rfl ⟨cell_of (j := 0) HBd.out.h5 rfl, cell_of (j := 1) HBd.out.h5 rfl⟩ (fun hHeld => ?_)
  refine pure_ (i := 0) (N := some 147) (v := ?_) (a' := ?_) #[true, false, false, false, false, false, false, false] rfl rfl (by kernel_rfl) (fun _ _ _ h => h) (Or.inl ⟨by rfl, ?_⟩) ?_ ?_
  rotate_left
  · intro w'
    go_simp
    with_reducible rfl
  rotate_left
  · simp only [Act.put, List.setIfInBounds_toArray, List.set_cons_zero, List.set_cons_succ, i64_w, i32_w]
    rfl
  refine pure_ (i := 3) (N := some 150) (v := ?_) (a' := ?_) #[true, false, false, true, false, false, false, false] rfl rfl (by kernel_rfl) (fun _ _ _ h => h) (Or.inl ⟨by rfl, ?_⟩) ?_ ?_
  rotate_left
  · intro w'
    go_simp
    with_reducible rfl
  rotate_left
  · simp only [Act.put, List.setIfInBounds_toArray, List.set_cons_zero, List.set_cons_succ, i64_w, i32_w]
    rfl
  refine take_ (i := 1) (N := some 148) (v := ?_) (a' := ?_) #[true, true, false, true, false, false, false, false] rfl rfl (by kernel_rfl) (fun _ _ _ h => h) (Or.inl ⟨by rfl, ?_⟩) hHeld ?_ ?_
  rotate_left
  · rintro w' ⟨s0, s1⟩
    go_simp
    with_reducible rfl
  rotate_left
  · simp only [Act.put, List.setIfInBounds_toArray, List.set_cons_zero, List.set_cons_succ, i64_w, i32_w]
    rfl
  refine take_ (i := 4) (N := some 151) (v := ?_) (a' := ?_) #[true, true, false, true, true, false, false, false] rfl rfl (by kernel_rfl) (fun _ _ _ h => h) (Or.inl ⟨by rfl, ?_⟩) hHeld ?_ ?_
  rotate_left
  · rintro w' ⟨s0, s1⟩
    go_simp
    with_reducible rfl
  rotate_left
  · simp only [Act.put, List.setIfInBounds_toArray, List.set_cons_zero, List.set_cons_succ, i64_w, i32_w]
    rfl
  refine one_ (i := 2) (N := some 149) #[true, true, true, true, true, false, false, false] rfl rfl (by kernel_rfl) (by decide) (fun K hK => ?_)
  refine goes_ Try.func31 (by kernel_rfl) rfl #[.pointer (some ⟨o.g, 0, none⟩)] (by rfl) rfl rfl (by simp only [List.map_toArray, List.map_cons, List.map_nil]; try rfl) ?_
  with_reducible refine ((clone_new W.drew o.g o.n o.t HSd.out.o.s)).mono ?_
  rintro e w2 ⟨gn, rfl, hgn, hsn, hg⟩
  refine ⟨_, rfl, ?_⟩
  have hl2 : Lt W.drew f1 w2 f1 (fun _ => False) := Lt.gb hg; have HS2 := Aside0.mk (HSd.out.lt hl2 (fun _ h => h.elim)); have HB2 := Aside0.mk (HBd.out.lt hl2 (fun h => h)); have HT2 := Aside0.mk (HTd.out.trans (hl2.mono (U := TT c) (fun _ h => h.elim))); have HGN := Aside0.mk hgn; have HSN := Aside0.mk hsn; have HG2 := Aside0.mk hg; clear hg hl2 hgn hsn HSd HBd HTd
  refine hK.out _ _ ⟨cell_of (j := 0) HB2.out.h5 rfl, cell_of (j := 1) HB2.out.h5 rfl⟩ (fun hHeld => ?_)
  clear hK K
  refine norm_ (a' := ?_) ?_ ?_
  rotate_left
  · show Act.put _ (some 149) _ = _
    simp only [Act.put, List.setIfInBounds_toArray, List.set_cons_zero, List.set_cons_succ, i64_w, i32_w]
    rfl
  refine one_ (i := 5) (N := some 152) #[true, true, true, true, true, true, false, false] rfl rfl (by kernel_rfl) (by decide) (fun K hK => ?_)
  refine goes_ Try.func32 (by kernel_rfl) rfl #[.pointer (some ⟨o.r, 0, none⟩)] (by rfl) rfl rfl (by simp only [List.map_toArray, List.map_cons, List.map_nil]; try rfl) ?_
  with_reducible refine ((rClone_calls w2 P o.r o.ab o.n o.c o.t HS2.out.o.d HS2.out.o.one)).mono ?_
  rintro e w3 ⟨rn, abn, cn, rfl, hrn, hg⟩
  refine ⟨_, rfl, ?_⟩
  have hl3 : Lt w2 f1 w3 f1 (fun _ => False) := Lt.gb hg; have HS3 := Aside0.mk (HS2.out.lt hl3 (fun _ h => h.elim)); have HB3 := Aside0.mk (HB2.out.lt hl3 (fun h => h)); have HT3 := Aside0.mk (HT2.out.trans (hl3.mono (U := TT c) (fun _ h => h.elim))); have HSN3 := Aside0.mk (set_tn HSN.out hl3.tn (fun h => h)); have HRN := Aside0.mk hrn; have HGL := Aside0.mk (set_lt HSN.out); have HGS := Aside0.mk hg.size; have HG3 := Aside0.mk (World.grownBy.trans HG2.out hg); clear hg hl3 hrn HS2 HB2 HT2 HSN; have q4a := cell_of (j := 0) (v := .pointer (some ⟨p.g, 0, none⟩)) HB3.out.h4 rfl; have q4b := cell_of (j := 1) (v := .pointer (some ⟨p.r, 0, none⟩)) HB3.out.h4 rfl; have q4c := frozen_of (j := 0) HB3.out.h4; have q4d := frozen_of (j := 1) HB3.out.h4
  refine hK.out _ _ ⟨cell_of (j := 0) HB3.out.h5 rfl, cell_of (j := 1) HB3.out.h5 rfl⟩ (fun hHeld => ?_)
  clear hK K
  refine norm_ (a' := ?_) ?_ ?_
  rotate_left
  · show Act.put _ (some 152) _ = _
    simp only [Act.put, List.setIfInBounds_toArray, List.set_cons_zero, List.set_cons_succ, i64_w, i32_w]
    rfl
  refine pure_ (i := 6) (N := some 153) (v := ?_) (a' := ?_) #[true, true, true, true, true, true, true, false] rfl rfl (by kernel_rfl) (fun _ _ _ h => h) (Or.inl ⟨by rfl, ?_⟩) ?_ ?_
  rotate_left
  · intro w'
    go_simp
    with_reducible rfl
  rotate_left
  · simp only [Act.put, List.setIfInBounds_toArray, List.set_cons_zero, List.set_cons_succ, i64_w, i32_w]
    rfl
  refine last_ (i := 7) (N := none) #[true, true, true, true, true, true, true, true] rfl rfl (by kernel_rfl) (by decide) (fun K hK => ?_)
  refine skip_ (w1 := ?_) (by rfl) rfl ?_ ?_
  rotate_left
  · go_simp
    rfl
  refine hK.out _ _ ?_
  clear hK K
  refine done_ (by kernel_rfl) ?_
  clear cp0 cp1 co0 co1 cx1 cx2 cx3 cr0 cr1 fr0 fr1
  go_upto_region 29 with (fail)
  obtain ⟨f3, hf3⟩ : ∃ f3 : Nat → Int, ∀ k, f3 k = if k = gn then c else if k = rn then c - 1 else if k = abn then c - 2 else f1 k := ⟨_, fun _ => rfl⟩
  have hT6 : Tn w3 ((w3.setCell ⟨b4, 0, none⟩ (.pointer (some ⟨gn, 0, none⟩))).setCell ⟨b4, 1, none⟩ (.pointer (some ⟨rn, 0, none⟩))) (fun i => i = b4) := (Tn.set b4 0 _ (F := fun i => i = b4) rfl).trans' (Tn.set b4 1 _ (F := fun i => i = b4) rfl)
  have h46 : ((w3.setCell ⟨b4, 0, none⟩ (.pointer (some ⟨gn, 0, none⟩))).setCell ⟨b4, 1, none⟩ (.pointer (some ⟨rn, 0, none⟩))).heap[b4]? = some (.cells #[.pointer (some ⟨gn, 0, none⟩), .pointer (some ⟨rn, 0, none⟩)] 45 (0, 0)) := by
    have h0 := blk_set 1 (.pointer (some ⟨rn, 0, none⟩)) (blk_set 0 (.pointer (some ⟨gn, 0, none⟩)) HB3.out.h4)
    simpa using h0
  generalize (w3.setCell ⟨b4, 0, none⟩ (.pointer (some ⟨gn, 0, none⟩))).setCell ⟨b4, 1, none⟩ (.pointer (some ⟨rn, 0, none⟩)) = w6 at hT6 h46 ⊢
  have hb4l : b4 < W.drew.heap.size := blk_lt' HBe.out.h4
  have hgn := HGN.out
  have hgl := HGL.out
  have hgs := HGS.out
  have hz2 := HG2.out.size
  have hrn := HRN.out.base
  have habn := HRN.out.abl.1
  have hne := HRN.out.ne
  have hlab : ∀ k, k < W.drew.heap.size → f3 k = f1 k := fun k hk => by rw [hf3, if_neg (by omega), if_neg (by omega), if_neg (by omega)]
  have hl6 : Lt W.drew f1 w6 f3 (fun x => x = -100) := ⟨(Tn.gb0 HG3.out _).trans hT6 (fun i _ e => by rw [e]; exact HBe.out.f4), hlab⟩
  have HRe6 := HSe.out.re.lt hl6 (fun x e => by omega)
  have n47 : b7 ≠ b4 := fun e => by
    have h1 := HB3.out.h4
    rw [← e, HB3.out.h7] at h1
    simp at h1
  have HB6 := Aside0.mk (show Bx w6 f3 b4 b5 b7 b8 ⟨gn, rn, abn, o.n, cn, o.t⟩ o sec 5 N LA ln lc from
    ⟨h46, blk_tn HB3.out.h5 hT6 (fun e => HB3.out.n45 e.symm), blk_tn HB3.out.h7 hT6 n47, blk_tn HB3.out.h8 hT6 (fun e => HB3.out.n48 e.symm),
      by rw [hlab _ (blk_lt' HBe.out.h4)]; exact HBe.out.f4, by rw [hlab _ (blk_lt' HBe.out.h5)]; exact HBe.out.f5, by rw [hlab _ (blk_lt' HBe.out.h7)]; exact HBe.out.f7, by rw [hlab _ (blk_lt' HBe.out.h8)]; exact HBe.out.f8, HBe.out.n48, HBe.out.n58, HBe.out.n45⟩)
  have hd6 := HRN.out.tn hT6 (by omega) (by omega)
  have HP6 : PrAt w6 P f3 c ⟨gn, rn, abn, o.n, cn, o.t⟩ :=
    ⟨set_tn HSN3.out hT6 (by show ¬ gn = b4; omega), ⟨hd6.blk, own_mono hd6.own (by have := HSe.out.size; omega), hd6.ne, by have := HSe.out.size; show P ≤ rn; omega, hd6.le⟩, HSe.out.o.one, by have := HSe.out.size; show P ≤ gn; omega,
      by show f3 gn = c; rw [hf3, if_pos rfl], by show f3 rn = _; rw [hf3, if_neg (by omega), if_pos rfl], by show f3 abn = _; rw [hf3, if_neg (by omega), if_neg hne, if_pos rfl]⟩
  have HS6 := Aside0.mk (HRe6.st HP6)
  have HT6 := Aside0.mk (show Lt w f w6 f3 (TT c) from ⟨(HT3.out.box HZ4.out hT6).tn, fun k hk => by rw [hlab k (Nat.lt_of_lt_of_le hk HTe.out.tn.size)]; exact HTe.out.lab k hk⟩)
  clear hb4l hgn hgl hgs hz2 hrn habn hne hlab hl6 HRe6 n47 hd6 HP6 hT6 h46 hf3
  have hl7 : Lt w6 f3 w6.drew f3 (fun _ => False) := Lt.gb (gb_drew w6 none)
  have HS7 := Aside0.mk (HS6.out.lt hl7 (fun _ h => h.elim))
  have HB7 := Aside0.mk (HB6.out.lt hl7 (fun h => h))
  have HT7 := Aside0.mk (HT6.out.trans (hl7.mono (U := TT c) (fun _ h => h.elim)))
  have q8a := cell_of (j := 0) (v := .pointer none) HB6.out.h8 rfl
  have q8b := cell_of (j := 1) (v := .pointer none) HB6.out.h8 rfl
  have q8c := frozen_of (j := 0) HB6.out.h8
  have q8d := frozen_of (j := 1) HB6.out.h8
  clear hl7
  refine start_ (n := 6) (S := fun w' => w'.cell? ⟨b4, 0, none⟩ = some (.pointer (some ⟨gn, 0, none⟩)) ∧ w'.cell? ⟨b4, 1, none⟩ = some (.pointer (some ⟨rn, 0, none⟩))) (ds := []) #[false, false, false, false, false, false] (by kernel_rfl) rfl rfl ⟨cell_of (j := 0) HB7.out.h4 rfl, cell_of (j := 1) HB7.out.h4 rfl⟩ (fun hHeld => ?_)
  refine pure_ (i := 1) (N := some 155) (v := ?_) (a' := ?_) #[false, true, false, false, false, false] rfl rfl (by kernel_rfl) (fun _ _ _ h => h) (Or.inl ⟨by rfl, ?_⟩) ?_ ?_
  rotate_left
  · intro w'
    go_simp
    with_reducible rfl
  rotate_left
  · simp only [Act.put, List.setIfInBounds_toArray, List.set_cons_zero, List.set_cons_succ, i64_w, i32_w]
    rfl
  refine take_ (i := 0) (N := some 154) (v := ?_) (a' := ?_) #[true, true, false, false, false, false] rfl rfl (by kernel_rfl) (fun _ _ _ h => h) (Or.inl ⟨by rfl, ?_⟩) hHeld ?_ ?_
  rotate_left
  · rintro w' ⟨s0, s1⟩
    go_simp
    with_reducible rfl
  rotate_left
  · simp only [Act.put, List.setIfInBounds_toArray, List.set_cons_zero, List.set_cons_succ, i64_w, i32_w]
    rfl
  refine take_ (i := 2) (N := some 156) (v := ?_) (a' := ?_) #[true, true, true, false, false, false] rfl rfl (by kernel_rfl) (fun _ _ _ h => h) (Or.inl ⟨by rfl, ?_⟩) hHeld ?_ ?_
  rotate_left
  · rintro w' ⟨s0, s1⟩
    go_simp
    with_reducible rfl
  rotate_left
  · simp only [Act.put, List.setIfInBounds_toArray, List.set_cons_zero, List.set_cons_succ, i64_w, i32_w]
    rfl
  refine pure_ (i := 3) (N := some 157) (v := ?_) (a' := ?_) #[true, true, true, true, false, false] rfl rfl (by kernel_rfl) (fun _ _ _ h => h) (Or.inl ⟨by rfl, ?_⟩) ?_ ?_
  rotate_left
  · intro w'
    go_simp
    with_reducible rfl
  rotate_left
  · simp only [Act.put, List.setIfInBounds_toArray, List.set_cons_zero, List.set_cons_succ, i64_w, i32_w]
    rfl
  refine one_ (i := 4) (N := none) #[true, true, true, true, true, false] rfl rfl (by kernel_rfl) (by decide) (fun K hK => ?_)
  refine skip_ (w1 := ?_) (by rfl) rfl ?_ ?_
  rotate_left
  · go_simp
    rfl
  refine hK.out _ _ ⟨st2_cell (cell_of (j := 0) HB7.out.h4 rfl) HB7.out.n48, st2_cell (cell_of (j := 1) HB7.out.h4 rfl) HB7.out.n48⟩ (fun hHeld => ?_)
  clear hK K
  refine pure_ (i := 5) (N := some 9) (v := ?_) (a' := ?_) #[true, true, true, true, true, true] rfl rfl (by kernel_rfl) (fun _ _ _ h => h) (Or.inl ⟨by rfl, ?_⟩) ?_ ?_
  rotate_left
  · intro w'
    go_simp
    with_reducible rfl
  rotate_left
  · simp only [Act.put, List.setIfInBounds_toArray, List.set_cons_zero, List.set_cons_succ, i64_w, i32_w]
    rfl
  refine done_ (by kernel_rfl) ?_
  go_wp2_with fail
  obtain ⟨hend, hblk⟩ := step_end (os := os) HS7.out HB7.out HT7.out (by omega) HZ8.out
  refine bodyPost_ret (results_ct rfl _ _ b8 45 _ (0, 0) _ rfl hblk Try.underlying45 rfl (by kernel_rfl)) rfl ?_
  exact hend
end Go.Proofs.Ytohopfbacfddbaa.S
