/- One step at both machines: kinds that do nothing. Conditions: each theorem's own. -/
import Derived.Test.YtohopfbacfddbaaSK
namespace Go.Proofs.Ytohopfbacfddbaa.S
open Go.RowKit Go.Proofs.YtohopfbacfddbaaW.PrintWords Go.Proofs.YtohopfbacfddbaaW.PrintLast Go.Proofs.Ytohopfbacfddbaa.H
open Go.Proofs.Ytohopfbacfddbaa.N hiding gb_setCell gb_drewN gb_drew gb_refl gb_any gb_of_below below_of_gb below_gb own_open ne_of_ge cut_at
set_option linter.unusedVariables false
set_option linter.unusedSimpArgs false
set_option maxHeartbeats 8000000 in
set_option maxRecDepth 100000 in
theorem step_other (w : World) (P h : Nat) (f : Nat → Int) (c d : Int) (p o : Pr) (OA : Option Addr) (oc : Nat) (WA : Option Addr) (wc : Nat) (os ws : List Sl) (hs : St w P f c d p o h OA oc WA wc os ws) (sec : Bool) (k N : Int) (LA : Option Addr) (ln lc : Nat) (hk : k < 0 ∨ 6 < k) :
    Calls Try.prog 16 #[p.val, o.val, .pointer (some ⟨h, 0, none⟩), .agg #[.bool sec, .int .i64 k, .int .i64 N, .slice LA ln lc]] w (StepI w P f c d o h os) := by
  have hb0 : (k == 0) = false := by simp; omega
  have hb1 : (k == 1) = false := by simp; omega
  have hb2 : (k == 2) = false := by simp; omega
  have hb3 : (k == 3) = false := by simp; omega
  have hb4 : (k == 4) = false := by simp; omega
  have hb5 : (k == 5) = false := by simp; omega
  have hb6 : (k == 6) = false := by simp; omega
  clear hk
  obtain ⟨f1, hf1⟩ : ∃ f1 : Nat → Int, f1 = fun i => if i < w.heap.size then f i else -100 := ⟨_, rfl⟩
  obtain ⟨hbx, hg⟩ := step_boxes w f p o sec k N LA ln lc
  rw [← hf1] at hbx
  have HL0 := Aside0.mk (show Lt w f ((((w.alloc (.cells #[.pointer (some ⟨p.g, 0, none⟩), .pointer (some ⟨p.r, 0, none⟩)] 45)).alloc (.cells #[.pointer (some ⟨o.g, 0, none⟩), .pointer (some ⟨o.r, 0, none⟩)] 45)).alloc (.cells #[.bool sec, .int .i64 k, .int .i64 N, .slice LA ln lc] 47)).alloc (.cells #[.pointer none, .pointer none] 45)) f1 (fun _ => False) from ⟨Tn.gb0 hg _, fun i hi => by rw [hf1]; exact if_pos hi⟩)
  have HS0 := Aside0.mk (hs.lt HL0.out (fun _ h => h.elim))
  have HBX := Aside0.mk hbx
  have HZ4 : Aside0 (w.heap.size ≤ w.heap.size) := ⟨Nat.le_refl _⟩
  have HZ8 : Aside0 (w.heap.size ≤ w.heap.size + 1 + 1 + 1) := ⟨by omega⟩
  clear hs hbx hg hf1
  unfold Pr.val
  go_enter Try.func16, Try.ntmps16
  go_upto_region 1 with (fail)
  generalize ((((w.alloc (.cells #[.pointer (some ⟨p.g, 0, none⟩), .pointer (some ⟨p.r, 0, none⟩)] 45)).alloc (.cells #[.pointer (some ⟨o.g, 0, none⟩), .pointer (some ⟨o.r, 0, none⟩)] 45)).alloc (.cells #[.bool sec, .int .i64 k, .int .i64 N, .slice LA ln lc] 47)).alloc (.cells #[.pointer none, .pointer none] 45)) = W at HBX HL0 HS0 ⊢
  generalize hb8 : w.heap.size + 1 + 1 + 1 = b8 at HBX HZ8 ⊢
  generalize hb7 : w.heap.size + 1 + 1 = b7 at HBX ⊢
  generalize hb5 : w.heap.size + 1 = b5 at HBX ⊢
  obtain ⟨b4, hb4⟩ : ∃ b4, b4 = w.heap.size := ⟨_, rfl⟩
  rw [← hb4] at HBX ⊢
  rw [← hb4] at HZ4
  have HZ4 : Aside0 (w.heap.size ≤ b4) := ⟨by omega⟩
  clear hb8 hb7 hb5 hb4
  have cp0 := cell_of (j := 0) (v := .pointer (some ⟨p.g, 0, none⟩)) HBX.out.h4 rfl
  have cp1 := cell_of (j := 1) (v := .pointer (some ⟨p.r, 0, none⟩)) HBX.out.h4 rfl
  have co0 := cell_of (j := 0) (v := .pointer (some ⟨o.g, 0, none⟩)) HBX.out.h5 rfl
  have co1 := cell_of (j := 1) (v := .pointer (some ⟨o.r, 0, none⟩)) HBX.out.h5 rfl
  have cx1 := cell_of (j := 1) (v := .int .i64 k) HBX.out.h7 rfl
  have cx2 := cell_of (j := 2) (v := .int .i64 N) HBX.out.h7 rfl
  have cx3 := cell_of (j := 3) (v := .slice LA ln lc) HBX.out.h7 rfl
  have cr0 := cell_of (j := 0) (v := .pointer none) HBX.out.h8 rfl
  have cr1 := cell_of (j := 1) (v := .pointer none) HBX.out.h8 rfl
  have fr0 := frozen_of (j := 0) HBX.out.h8
  have fr1 := frozen_of (j := 1) HBX.out.h8
  have HL1 := Aside0.mk (HL0.out.mono (U := TT c) (fun _ h => h.elim))
  go_wp2
  obtain ⟨hend, hblk⟩ := step_end (os := os) HS0.out HBX.out HL1.out (by omega) HZ8.out
  refine bodyPost_ret (results_ct rfl _ _ b8 45 _ (0, 0) _ rfl hblk Try.underlying45 rfl (by kernel_rfl)) rfl ?_
  exact hend
end Go.Proofs.Ytohopfbacfddbaa.S
