/- One step at both machines: what was handed out is written over. Conditions: each theorem's own. -/
import Derived.Test.YtohopfbacfddbaaSK
namespace Go.Proofs.Ytohopfbacfddbaa.S
open Go.RowKit Go.Proofs.YtohopfbacfddbaaW.PrintWords Go.Proofs.YtohopfbacfddbaaW.PrintLast Go.Proofs.Ytohopfbacfddbaa.H
open Go.Proofs.Ytohopfbacfddbaa.N hiding gb_setCell gb_drewN gb_drew gb_refl gb_any gb_of_below below_of_gb below_gb own_open ne_of_ge cut_at
set_option linter.unusedVariables false
set_option linter.unusedSimpArgs false
theorem kept_nil {w : World} {P h : Nat} {f : Nat → Int} (hb : w.heap[h]? = some (.cells #[.slice none 0 0, .slice none 0 0] 43 (0, 0))) (hP : P ≤ h) (f0 : f h = 0) : Kept w P h none 0 none 0 [] [] f :=
  ⟨hb, own_nil w P 22 Es.sz, own_nil w P 22 Es.sz, rfl, by simp, by simp, hP, f0, (fun k hk => by obtain ⟨ad, e, _⟩ := hk; cases e), (fun k hk => by obtain ⟨ad, e, _⟩ := hk; cases e), by simp, by simp⟩
set_option maxHeartbeats 8000000 in
set_option maxRecDepth 100000 in
theorem step_spoil (w : World) (P h : Nat) (f : Nat → Int) (c d : Int) (p o : Pr) (OA : Option Addr) (oc : Nat) (WA : Option Addr) (wc : Nat) (os ws : List Sl) (hs : St w P f c d p o h OA oc WA wc os ws) (sec : Bool) (N : Int) (LA : Option Addr) (ln lc : Nat) (hn : os.length ≤ 1000) :
    Calls Try.prog 16 #[p.val, o.val, .pointer (some ⟨h, 0, none⟩), .agg #[.bool sec, .int .i64 6, .int .i64 N, .slice LA ln lc]] w (StepI w P f c d o h os) := by
  obtain ⟨f1, hf1⟩ : ∃ f1 : Nat → Int, f1 = fun i => if i < w.heap.size then f i else -100 := ⟨_, rfl⟩
  obtain ⟨hbx, hg⟩ := step_boxes w f p o sec 6 N LA ln lc
  rw [← hf1] at hbx
  have HL0 := Aside0.mk (show Lt w f ((((w.alloc (.cells #[.pointer (some ⟨p.g, 0, none⟩), .pointer (some ⟨p.r, 0, none⟩)] 45)).alloc (.cells #[.pointer (some ⟨o.g, 0, none⟩), .pointer (some ⟨o.r, 0, none⟩)] 45)).alloc (.cells #[.bool sec, .int .i64 6, .int .i64 N, .slice LA ln lc] 47)).alloc (.cells #[.pointer none, .pointer none] 45)) f1 (fun _ => False) from ⟨Tn.gb0 hg _, fun i hi => by rw [hf1]; exact if_pos hi⟩)
  have HS0 := Aside0.mk (hs.lt HL0.out (fun _ h => h.elim))
  have HBX := Aside0.mk hbx
  have HZ4 : Aside0 (w.heap.size ≤ w.heap.size) := ⟨Nat.le_refl _⟩
  have HZ8 : Aside0 (w.heap.size ≤ w.heap.size + 1 + 1 + 1) := ⟨by omega⟩
  clear hs hbx hg hf1
  unfold Pr.val
  go_enter Try.func16, Try.ntmps16
  go_upto_region 1 with (fail)
  generalize ((((w.alloc (.cells #[.pointer (some ⟨p.g, 0, none⟩), .pointer (some ⟨p.r, 0, none⟩)] 45)).alloc (.cells #[.pointer (some ⟨o.g, 0, none⟩), .pointer (some ⟨o.r, 0, none⟩)] 45)).alloc (.cells #[.bool sec, .int .i64 6, .int .i64 N, .slice LA ln lc] 47)).alloc (.cells #[.pointer none, .pointer none] 45)) = W at HBX HL0 HS0 ⊢
  generalize hb8 : w.heap.size + 1 + 1 + 1 = b8 at HBX HZ8 ⊢
  generalize hb7 : w.heap.size + 1 + 1 = b7 at HBX ⊢
  generalize hb5 : w.heap.size + 1 = b5 at HBX ⊢
  obtain ⟨b4, hb4⟩ : ∃ b4, b4 = w.heap.size := ⟨_, rfl⟩
  rw [← hb4] at HBX ⊢
  rw [← hb4] at HZ4
  have HZ4 : Aside0 (w.heap.size ≤ b4) := ⟨by omega⟩
  clear hb8 hb7 hb5 hb4
  have cp0 := cell_of (j := 0) (v := .pointer (some ⟨p.g, 0, none⟩)) HBX.out.h4 rfl
  have cp1 := cell_of (j := 1) (v := .pointer (some ⟨p.r, 0, none⟩)) HBX.out.h4 rfl
  have co0 := cell_of (j := 0) (v := .pointer (some ⟨o.g, 0, none⟩)) HBX.out.h5 rfl
  have co1 := cell_of (j := 1) (v := .pointer (some ⟨o.r, 0, none⟩)) HBX.out.h5 rfl
  have cx1 := cell_of (j := 1) (v := .int .i64 6) HBX.out.h7 rfl
  have cx2 := cell_of (j := 2) (v := .int .i64 N) HBX.out.h7 rfl
  have cx3 := cell_of (j := 3) (v := .slice LA ln lc) HBX.out.h7 rfl
  have cr0 := cell_of (j := 0) (v := .pointer none) HBX.out.h8 rfl
  have cr1 := cell_of (j := 1) (v := .pointer none) HBX.out.h8 rfl
  have fr0 := frozen_of (j := 0) HBX.out.h8
  have fr1 := frozen_of (j := 1) HBX.out.h8
  have HCD := Aside0.mk HS0.out.cd
  go_wp2_with fail
  refine (spoil_calls W P h OA oc WA wc os ws f1 HS0.out.k hn (fun s hs => by have := HS0.out.sm s hs; omega)).mono ?_
  rintro e W1 ⟨rfl, ⟨v, u, hbl⟩, ht⟩
  have hl1 : Lt W f1 W1 f1 (fun x => 0 ≤ x) := ⟨ht, fun _ _ => rfl⟩
  have HP1 := Aside0.mk (HS0.out.p.lt hl1 (by have := HCD.out; omega) (by have := HCD.out; omega) (by have := HCD.out; omega))
  have HO1 := Aside0.mk (HS0.out.o.lt hl1 (by have := HCD.out; omega) (by have := HCD.out; omega) (by have := HCD.out; omega))
  have HB1 := Aside0.mk (HBX.out.lt hl1 (by omega))
  have HT1 := Aside0.mk ((HL0.out.mono (U := TT c) (fun _ h => h.elim)).trans (hl1.mono (U := TT c) (fun x h => .inr (.inr (.inr (.inl h))))))
  have HBL := Aside0.mk hbl
  clear cp0 cp1 co0 co1 cx1 cx2 cx3 cr0 cr1 fr0 fr1
  clear hbl ht hl1
  have cp0 := cell_of (j := 0) (v := .pointer (some ⟨p.g, 0, none⟩)) HB1.out.h4 rfl
  have cp1 := cell_of (j := 1) (v := .pointer (some ⟨p.r, 0, none⟩)) HB1.out.h4 rfl
  have co0 := cell_of (j := 0) (v := .pointer (some ⟨o.g, 0, none⟩)) HB1.out.h5 rfl
  have co1 := cell_of (j := 1) (v := .pointer (some ⟨o.r, 0, none⟩)) HB1.out.h5 rfl
  have cx1 := cell_of (j := 1) (v := .int .i64 6) HB1.out.h7 rfl
  have cx2 := cell_of (j := 2) (v := .int .i64 N) HB1.out.h7 rfl
  have cx3 := cell_of (j := 3) (v := .slice LA ln lc) HB1.out.h7 rfl
  have cr0 := cell_of (j := 0) (v := .pointer none) HB1.out.h8 rfl
  have cr1 := cell_of (j := 1) (v := .pointer none) HB1.out.h8 rfl
  have fr0 := frozen_of (j := 0) HB1.out.h8
  have fr1 := frozen_of (j := 1) HB1.out.h8
  have q0 := cell_of (j := 0) (v := v) HBL.out rfl
  have q1 := cell_of (j := 1) (v := u) HBL.out rfl
  have g0 := frozen_of (j := 0) HBL.out
  have g1 := frozen_of (j := 1) HBL.out
  go_upto_region 33 with (fail)
  have hT6 : Tn W1 ((W1.setCell ⟨h, 0, none⟩ (.slice none 0 0)).setCell ⟨h, 1, none⟩ (.slice none 0 0)) (fun i => i = h) := (Tn.set h 0 _ (F := fun i => i = h) rfl).trans' (Tn.set h 1 _ (F := fun i => i = h) rfl)
  have h46 : ((W1.setCell ⟨h, 0, none⟩ (.slice none 0 0)).setCell ⟨h, 1, none⟩ (.slice none 0 0)).heap[h]? = some (.cells #[.slice none 0 0, .slice none 0 0] 43 (0, 0)) := by
    have h0 := blk_set 1 (.slice none 0 0) (blk_set 0 (.slice none 0 0) HBL.out)
    simpa using h0
  generalize (W1.setCell ⟨h, 0, none⟩ (.slice none 0 0)).setCell ⟨h, 1, none⟩ (.slice none 0 0) = w6 at hT6 h46 ⊢
  clear cp0 cp1 co0 co1 cx1 cx2 cx3 cr0 cr1 fr0 fr1
  have hl6 : Lt W1 f1 w6 f1 (fun x => x = 0) := ⟨hT6.mono (fun i _ e => by rw [e]; exact HS0.out.k.f0), fun _ _ => rfl⟩
  have HS6 := Aside0.mk (show St w6 P f1 c d p o h none 0 none 0 [] [] from
    ⟨HP1.out.lt hl6 (by have := HCD.out; omega) (by have := HCD.out; omega) (by have := HCD.out; omega), HO1.out.lt hl6 (by have := HCD.out; omega) (by have := HCD.out; omega) (by have := HCD.out; omega), kept_nil h46 HS0.out.k.base HS0.out.k.f0, by simp, HS0.out.low, HS0.out.cd⟩)
  have HB6 := Aside0.mk (HB1.out.lt hl6 (by omega))
  have HT6 := Aside0.mk (HT1.out.trans (hl6.mono (U := TT c) (fun x h => .inr (.inr (.inr (.inl (by omega)))))))
  clear hT6 h46 hl6 q0 q1 g0 g1
  have cp0 := cell_of (j := 0) (v := .pointer (some ⟨p.g, 0, none⟩)) HB6.out.h4 rfl
  have cp1 := cell_of (j := 1) (v := .pointer (some ⟨p.r, 0, none⟩)) HB6.out.h4 rfl
  have co0 := cell_of (j := 0) (v := .pointer (some ⟨o.g, 0, none⟩)) HB6.out.h5 rfl
  have co1 := cell_of (j := 1) (v := .pointer (some ⟨o.r, 0, none⟩)) HB6.out.h5 rfl
  have cx1 := cell_of (j := 1) (v := .int .i64 6) HB6.out.h7 rfl
  have cx2 := cell_of (j := 2) (v := .int .i64 N) HB6.out.h7 rfl
  have cx3 := cell_of (j := 3) (v := .slice LA ln lc) HB6.out.h7 rfl
  have cr0 := cell_of (j := 0) (v := .pointer none) HB6.out.h8 rfl
  have cr1 := cell_of (j := 1) (v := .pointer none) HB6.out.h8 rfl
  have fr0 := frozen_of (j := 0) HB6.out.h8
  have fr1 := frozen_of (j := 1) HB6.out.h8
  go_wp2_with fail
  obtain ⟨hend, hblk⟩ := step_end (os := os) HS6.out HB6.out HT6.out (by simp) HZ8.out
  refine bodyPost_ret (results_ct rfl _ _ b8 45 _ (0, 0) _ rfl hblk Try.underlying45 rfl (by kernel_rfl)) rfl ?_
  exact hend
end Go.Proofs.Ytohopfbacfddbaa.S
