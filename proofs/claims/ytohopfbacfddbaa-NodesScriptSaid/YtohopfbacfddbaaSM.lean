/- One step at both machines: whether they have a node. Conditions: each theorem's own. -/
import Derived.Test.YtohopfbacfddbaaSK
namespace Go.Proofs.Ytohopfbacfddbaa.S
open Go.RowKit Go.Proofs.YtohopfbacfddbaaW.PrintWords Go.Proofs.YtohopfbacfddbaaW.PrintLast Go.Proofs.Ytohopfbacfddbaa.H
open Go.Proofs.Ytohopfbacfddbaa.N hiding gb_setCell gb_drewN gb_drew gb_refl gb_any gb_of_below below_of_gb below_gb own_open ne_of_ge cut_at
set_option linter.unusedVariables false
set_option linter.unusedSimpArgs false
set_option maxHeartbeats 8000000 in
set_option maxRecDepth 100000 in
theorem step_has (w : World) (P h : Nat) (f : Nat → Int) (c d : Int) (p o : Pr) (OA : Option Addr) (oc : Nat) (WA : Option Addr) (wc : Nat) (os ws : List Sl) (hs : St w P f c d p o h OA oc WA wc os ws) (sec : Bool) (N : Int) (LA : Option Addr) (ln lc : Nat) :
    Calls Try.prog 16 #[p.val, o.val, .pointer (some ⟨h, 0, none⟩), .agg #[.bool sec, .int .i64 3, .int .i64 N, .slice LA ln lc]] w (StepI w P f c d o h os) := by
  obtain ⟨f1, hf1⟩ : ∃ f1 : Nat → Int, f1 = fun i => if i < w.heap.size then f i else -100 := ⟨_, rfl⟩
  obtain ⟨hbx, hg⟩ := step_boxes w f p o sec 3 N LA ln lc
  rw [← hf1] at hbx
  have HL0 := Aside0.mk (show Lt w f ((((w.alloc (.cells #[.pointer (some ⟨p.g, 0, none⟩), .pointer (some ⟨p.r, 0, none⟩)] 45)).alloc (.cells #[.pointer (some ⟨o.g, 0, none⟩), .pointer (some ⟨o.r, 0, none⟩)] 45)).alloc (.cells #[.bool sec, .int .i64 3, .int .i64 N, .slice LA ln lc] 47)).alloc (.cells #[.pointer none, .pointer none] 45)) f1 (fun _ => False) from ⟨Tn.gb0 hg _, fun i hi => by rw [hf1]; exact if_pos hi⟩)
  have HS0 := Aside0.mk (hs.lt HL0.out (fun _ h => h.elim))
  have HBX := Aside0.mk hbx
  have HZ4 : Aside0 (w.heap.size ≤ w.heap.size) := ⟨Nat.le_refl _⟩
  have HZ8 : Aside0 (w.heap.size ≤ w.heap.size + 1 + 1 + 1) := ⟨by omega⟩
  clear hs hbx hg hf1
  unfold Pr.val
  go_enter Try.func16, Try.ntmps16
  go_upto_region 1 with (fail)
  generalize ((((w.alloc (.cells #[.pointer (some ⟨p.g, 0, none⟩), .pointer (some ⟨p.r, 0, none⟩)] 45)).alloc (.cells #[.pointer (some ⟨o.g, 0, none⟩), .pointer (some ⟨o.r, 0, none⟩)] 45)).alloc (.cells #[.bool sec, .int .i64 3, .int .i64 N, .slice LA ln lc] 47)).alloc (.cells #[.pointer none, .pointer none] 45)) = W at HBX HL0 HS0 ⊢
  generalize hb8 : w.heap.size + 1 + 1 + 1 = b8 at HBX HZ8 ⊢
  generalize hb7 : w.heap.size + 1 + 1 = b7 at HBX ⊢
  generalize hb5 : w.heap.size + 1 = b5 at HBX ⊢
  obtain ⟨b4, hb4⟩ : ∃ b4, b4 = w.heap.size := ⟨_, rfl⟩
  rw [← hb4] at HBX ⊢
  rw [← hb4] at HZ4
  have HZ4 : Aside0 (w.heap.size ≤ b4) := ⟨by omega⟩
  clear hb8 hb7 hb5 hb4
  have cp0 := cell_of (j := 0) (v := .pointer (some ⟨p.g, 0, none⟩)) HBX.out.h4 rfl
  have cp1 := cell_of (j := 1) (v := .pointer (some ⟨p.r, 0, none⟩)) HBX.out.h4 rfl
  have co0 := cell_of (j := 0) (v := .pointer (some ⟨o.g, 0, none⟩)) HBX.out.h5 rfl
  have co1 := cell_of (j := 1) (v := .pointer (some ⟨o.r, 0, none⟩)) HBX.out.h5 rfl
  have cx1 := cell_of (j := 1) (v := .int .i64 3) HBX.out.h7 rfl
  have cx2 := cell_of (j := 2) (v := .int .i64 N) HBX.out.h7 rfl
  have cx3 := cell_of (j := 3) (v := .slice LA ln lc) HBX.out.h7 rfl
  have cr0 := cell_of (j := 0) (v := .pointer none) HBX.out.h8 rfl
  have cr1 := cell_of (j := 1) (v := .pointer none) HBX.out.h8 rfl
  have fr0 := frozen_of (j := 0) HBX.out.h8
  have fr1 := frozen_of (j := 1) HBX.out.h8
  have HLd := Aside0.mk (show Lt W f1 W.drew f1 (fun _ => False) from Lt.gb (gb_drew W none))
  have HSd := Aside0.mk (HS0.out.lt HLd.out (fun _ h => h.elim))
  have HBd := Aside0.mk (HBX.out.lt HLd.out (fun h => h))
  have HL1 := Aside0.mk ((HL0.out.trans HLd.out).mono (U := TT c) (fun _ h => h.elim))
  obtain ⟨hs, hhs⟩ : ∃ b, b = hasB p.n p.t N := ⟨_, rfl⟩
  have hee : (hasB p.n p.t N == hasB p.n p.t N) = true := by simp
  go_wp2_with fail
  refine start_ (n := 14) (S := fun w' => w'.cell? ⟨b4, 0, none⟩ = some (.pointer (some ⟨p.g, 0, none⟩)) ∧ w'.cell? ⟨b4, 1, none⟩ = some (.pointer (some ⟨p.r, 0, none⟩)) ∧ w'.cell? ⟨b7, 2, none⟩ = some (.int .i64 N)) (ds := [12]) #[false, false, false, false, false, false, false, false, false, false, false, false, false, false] (by kernel_rfl) rfl rfl ⟨cell_of (j := 0) HBd.out.h4 rfl, cell_of (j := 1) HBd.out.h4 rfl, cell_of (j := 2) HBd.out.h7 rfl⟩ (fun hHeld => ?_)
  refine pure_ (i := 1) (N := some 99) (v := ?_) (a' := ?_) #[false, true, false, false, false, false, false, false, false, false, false, false, false, false] rfl rfl (by kernel_rfl) (fun _ _ _ h => h) (Or.inl ⟨by rfl, ?_⟩) ?_ ?_
  rotate_left
  · intro w'
    go_simp
    with_reducible rfl
  rotate_left
  · simp only [Act.put, List.setIfInBounds_toArray, List.set_cons_zero, List.set_cons_succ, i64_w, i32_w]
    rfl
  refine pure_ (i := 3) (N := some 101) (v := ?_) (a' := ?_) #[false, true, false, true, false, false, false, false, false, false, false, false, false, false] rfl rfl (by kernel_rfl) (fun _ _ _ h => h) (Or.inl ⟨by rfl, ?_⟩) ?_ ?_
  rotate_left
  · intro w'
    go_simp
    with_reducible rfl
  rotate_left
  · simp only [Act.put, List.setIfInBounds_toArray, List.set_cons_zero, List.set_cons_succ, i64_w, i32_w]
    rfl
  refine pure_ (i := 6) (N := some 104) (v := ?_) (a' := ?_) #[false, true, false, true, false, false, true, false, false, false, false, false, false, false] rfl rfl (by kernel_rfl) (fun _ _ _ h => h) (Or.inl ⟨by rfl, ?_⟩) ?_ ?_
  rotate_left
  · intro w'
    go_simp
    with_reducible rfl
  rotate_left
  · simp only [Act.put, List.setIfInBounds_toArray, List.set_cons_zero, List.set_cons_succ, i64_w, i32_w]
    rfl
  refine pure_ (i := 8) (N := some 106) (v := ?_) (a' := ?_) #[false, true, false, true, false, false, true, false, true, false, false, false, false, false] rfl rfl (by kernel_rfl) (fun _ _ _ h => h) (Or.inl ⟨by rfl, ?_⟩) ?_ ?_
  rotate_left
  · intro w'
    go_simp
    with_reducible rfl
  rotate_left
  · simp only [Act.put, List.setIfInBounds_toArray, List.set_cons_zero, List.set_cons_succ, i64_w, i32_w]
    rfl
  refine take_ (i := 0) (N := some 98) (v := ?_) (a' := ?_) #[true, true, false, true, false, false, true, false, true, false, false, false, false, false] rfl rfl (by kernel_rfl) (fun _ _ _ h => h) (Or.inl ⟨by rfl, ?_⟩) hHeld ?_ ?_
  rotate_left
  · rintro w' ⟨s0, s1, s2⟩
    go_simp
    with_reducible rfl
  rotate_left
  · simp only [Act.put, List.setIfInBounds_toArray, List.set_cons_zero, List.set_cons_succ, i64_w, i32_w]
    rfl
  refine take_ (i := 2) (N := some 100) (v := ?_) (a' := ?_) #[true, true, true, true, false, false, true, false, true, false, false, false, false, false] rfl rfl (by kernel_rfl) (fun _ _ _ h => h) (Or.inl ⟨by rfl, ?_⟩) hHeld ?_ ?_
  rotate_left
  · rintro w' ⟨s0, s1, s2⟩
    go_simp
    with_reducible rfl
  rotate_left
  · simp only [Act.put, List.setIfInBounds_toArray, List.set_cons_zero, List.set_cons_succ, i64_w, i32_w]
    rfl
  refine take_ (i := 4) (N := some 102) (v := ?_) (a' := ?_) #[true, true, true, true, true, false, true, false, true, false, false, false, false, false] rfl rfl (by kernel_rfl) (fun _ _ _ h => h) (Or.inl ⟨by rfl, ?_⟩) hHeld ?_ ?_
  rotate_left
  · rintro w' ⟨s0, s1, s2⟩
    go_simp
    with_reducible rfl
  rotate_left
  · simp only [Act.put, List.setIfInBounds_toArray, List.set_cons_zero, List.set_cons_succ, i64_w, i32_w]
    rfl
  refine take_ (i := 7) (N := some 105) (v := ?_) (a' := ?_) #[true, true, true, true, true, false, true, true, true, false, false, false, false, false] rfl rfl (by kernel_rfl) (fun _ _ _ h => h) (Or.inl ⟨by rfl, ?_⟩) hHeld ?_ ?_
  rotate_left
  · rintro w' ⟨s0, s1, s2⟩
    go_simp
    with_reducible rfl
  rotate_left
  · simp only [Act.put, List.setIfInBounds_toArray, List.set_cons_zero, List.set_cons_succ, i64_w, i32_w]
    rfl
  refine take_ (i := 9) (N := some 107) (v := ?_) (a' := ?_) #[true, true, true, true, true, false, true, true, true, true, false, false, false, false] rfl rfl (by kernel_rfl) (fun _ _ _ h => h) (Or.inl ⟨by rfl, ?_⟩) hHeld ?_ ?_
  rotate_left
  · rintro w' ⟨s0, s1, s2⟩
    go_simp
    with_reducible rfl
  rotate_left
  · simp only [Act.put, List.setIfInBounds_toArray, List.set_cons_zero, List.set_cons_succ, i64_w, i32_w]
    rfl
  refine one_ (i := 5) (N := some 103) #[true, true, true, true, true, true, true, true, true, true, false, false, false, false] rfl rfl (by kernel_rfl) (by decide) (fun K hK => ?_)
  refine goes_ Try.func13 (by kernel_rfl) rfl #[.pointer (some ⟨p.g, 0, none⟩), .int .i64 N] (by rfl) rfl rfl (by simp only [List.map_toArray, List.map_cons, List.map_nil]; try rfl) ?_
  with_reducible refine ((Has_calls _ p.g p.n p.t N HSd.out.p.s)).mono ?_
  rintro e w3 ⟨rfl, rfl⟩
  refine ⟨_, rfl, ?_⟩
  refine hK.out _ _ ⟨cell_of (j := 0) HBd.out.h4 rfl, cell_of (j := 1) HBd.out.h4 rfl, cell_of (j := 2) HBd.out.h7 rfl⟩ (fun hHeld => ?_)
  clear hK K
  refine norm_ (a' := ?_) ?_ ?_
  rotate_left
  · show Act.put _ (some 103) _ = _
    simp only [Act.put, List.setIfInBounds_toArray, List.set_cons_zero, List.set_cons_succ, i64_w, i32_w]
    rfl
  refine one_ (i := 10) (N := some 108) #[true, true, true, true, true, true, true, true, true, true, true, false, false, false] rfl rfl (by kernel_rfl) (by decide) (fun K hK => ?_)
  refine goes_ Try.func29 (by kernel_rfl) rfl #[.pointer (some ⟨p.r, 0, none⟩), .int .i64 N] (by rfl) rfl rfl (by simp only [List.map_toArray, List.map_cons, List.map_nil]; try rfl) ?_
  with_reducible refine ((rHas_calls _ P p.r p.ab p.n p.c p.t N HSd.out.p.d)).mono ?_
  rintro e w3 ⟨rfl, rfl⟩
  refine ⟨_, rfl, ?_⟩
  refine hK.out _ _ ⟨cell_of (j := 0) HBd.out.h4 rfl, cell_of (j := 1) HBd.out.h4 rfl, cell_of (j := 2) HBd.out.h7 rfl⟩ (fun hHeld => ?_)
  clear hK K
  refine norm_ (a' := ?_) ?_ ?_
  rotate_left
  · show Act.put _ (some 108) _ = _
    simp only [Act.put, List.setIfInBounds_toArray, List.set_cons_zero, List.set_cons_succ, i64_w, i32_w]
    rfl
  refine pure_ (i := 11) (N := some 109) (v := ?_) (a' := ?_) #[true, true, true, true, true, true, true, true, true, true, true, true, false, false] rfl rfl (by kernel_rfl) (fun _ _ _ h => h) (Or.inl ⟨by rfl, ?_⟩) ?_ ?_
  rotate_left
  · intro w'
    go_simp
    with_reducible rfl
  rotate_left
  · simp only [Act.put, List.setIfInBounds_toArray, List.set_cons_zero, List.set_cons_succ, i64_w, i32_w]
    rfl
  refine last_ (i := 12) (N := none) #[true, true, true, true, true, true, true, true, true, true, true, true, true, false] rfl rfl (by kernel_rfl) (by decide) (fun K hK => ?_)
  refine skip_ (w1 := ?_) (by rfl) rfl ?_ ?_
  rotate_left
  · go_simp
    rfl
  refine hK.out _ _ ?_
  clear hK K
  refine pure_ (i := 13) (N := some 9) (v := ?_) (a' := ?_) #[true, true, true, true, true, true, true, true, true, true, true, true, true, true] rfl rfl (by kernel_rfl) (fun _ _ _ h => h) (Or.inl ⟨by rfl, ?_⟩) ?_ ?_
  rotate_left
  · intro w'
    go_simp
    with_reducible rfl
  rotate_left
  · simp only [Act.put, List.setIfInBounds_toArray, List.set_cons_zero, List.set_cons_succ, i64_w, i32_w]
    rfl
  refine done_ (by kernel_rfl) ?_
  go_wp2_with fail
  obtain ⟨hend, hblk⟩ := step_end (os := os) HSd.out HBd.out HL1.out (by omega) HZ8.out
  refine bodyPost_ret (results_ct rfl _ _ b8 45 _ (0, 0) _ rfl hblk Try.underlying45 rfl (by kernel_rfl)) rfl ?_
  exact hend
end Go.Proofs.Ytohopfbacfddbaa.S
