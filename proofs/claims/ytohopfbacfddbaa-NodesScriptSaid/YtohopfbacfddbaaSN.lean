/- One step at both machines: taking. Conditions: each theorem's own. -/
import Derived.Test.YtohopfbacfddbaaSK
namespace Go.Proofs.Ytohopfbacfddbaa.S
open Go.RowKit Go.Proofs.YtohopfbacfddbaaW.PrintWords Go.Proofs.YtohopfbacfddbaaW.PrintLast Go.Proofs.Ytohopfbacfddbaa.H
open Go.Proofs.Ytohopfbacfddbaa.N hiding gb_setCell gb_drewN gb_drew gb_refl gb_any gb_of_below below_of_gb below_gb own_open ne_of_ge cut_at
set_option linter.unusedVariables false
set_option linter.unusedSimpArgs false
set_option maxHeartbeats 8000000 in
set_option maxRecDepth 100000 in
theorem step_take_small (w : World) (P h : Nat) (f : Nat → Int) (c d : Int) (p o : Pr) (OA : Option Addr) (oc : Nat) (WA : Option Addr) (wc : Nat) (os ws : List Sl) (hs : St w P f c d p o h OA oc WA wc os ws) (sec : Bool) (N : Int) (LA : Option Addr) (ln lc : Nat) (hn : os.length ≤ 1000) (hq : N < 1) :
    Calls Try.prog 16 #[p.val, o.val, .pointer (some ⟨h, 0, none⟩), .agg #[.bool sec, .int .i64 0, .int .i64 N, .slice LA ln lc]] w (StepI w P f c d o h os) := by
  have HQ := Aside0.mk hq
  clear hq
  obtain ⟨f1, hf1⟩ : ∃ f1 : Nat → Int, f1 = fun i => if i < w.heap.size then f i else -100 := ⟨_, rfl⟩
  obtain ⟨hbx, hg⟩ := step_boxes w f p o sec 0 N LA ln lc
  rw [← hf1] at hbx
  have HL0 := Aside0.mk (show Lt w f ((((w.alloc (.cells #[.pointer (some ⟨p.g, 0, none⟩), .pointer (some ⟨p.r, 0, none⟩)] 45)).alloc (.cells #[.pointer (some ⟨o.g, 0, none⟩), .pointer (some ⟨o.r, 0, none⟩)] 45)).alloc (.cells #[.bool sec, .int .i64 0, .int .i64 N, .slice LA ln lc] 47)).alloc (.cells #[.pointer none, .pointer none] 45)) f1 (fun _ => False) from ⟨Tn.gb0 hg _, fun i hi => by rw [hf1]; exact if_pos hi⟩)
  have HS0 := Aside0.mk (hs.lt HL0.out (fun _ h => h.elim))
  have HBX := Aside0.mk hbx
  have HZ4 : Aside0 (w.heap.size ≤ w.heap.size) := ⟨Nat.le_refl _⟩
  have HZ8 : Aside0 (w.heap.size ≤ w.heap.size + 1 + 1 + 1) := ⟨by omega⟩
  clear hs hbx hg hf1
  unfold Pr.val
  go_enter Try.func16, Try.ntmps16
  go_upto_region 1 with (fail)
  generalize ((((w.alloc (.cells #[.pointer (some ⟨p.g, 0, none⟩), .pointer (some ⟨p.r, 0, none⟩)] 45)).alloc (.cells #[.pointer (some ⟨o.g, 0, none⟩), .pointer (some ⟨o.r, 0, none⟩)] 45)).alloc (.cells #[.bool sec, .int .i64 0, .int .i64 N, .slice LA ln lc] 47)).alloc (.cells #[.pointer none, .pointer none] 45)) = W at HBX HL0 HS0 ⊢
  generalize hb8 : w.heap.size + 1 + 1 + 1 = b8 at HBX HZ8 ⊢
  generalize hb7 : w.heap.size + 1 + 1 = b7 at HBX ⊢
  generalize hb5 : w.heap.size + 1 = b5 at HBX ⊢
  obtain ⟨b4, hb4⟩ : ∃ b4, b4 = w.heap.size := ⟨_, rfl⟩
  rw [← hb4] at HBX ⊢
  rw [← hb4] at HZ4
  have HZ4 : Aside0 (w.heap.size ≤ b4) := ⟨by omega⟩
  clear hb8 hb7 hb5 hb4
  have cp0 := cell_of (j := 0) (v := .pointer (some ⟨p.g, 0, none⟩)) HBX.out.h4 rfl
  have cp1 := cell_of (j := 1) (v := .pointer (some ⟨p.r, 0, none⟩)) HBX.out.h4 rfl
  have co0 := cell_of (j := 0) (v := .pointer (some ⟨o.g, 0, none⟩)) HBX.out.h5 rfl
  have co1 := cell_of (j := 1) (v := .pointer (some ⟨o.r, 0, none⟩)) HBX.out.h5 rfl
  have cx1 := cell_of (j := 1) (v := .int .i64 0) HBX.out.h7 rfl
  have cx2 := cell_of (j := 2) (v := .int .i64 N) HBX.out.h7 rfl
  have cx3 := cell_of (j := 3) (v := .slice LA ln lc) HBX.out.h7 rfl
  have cr0 := cell_of (j := 0) (v := .pointer none) HBX.out.h8 rfl
  have cr1 := cell_of (j := 1) (v := .pointer none) HBX.out.h8 rfl
  have fr0 := frozen_of (j := 0) HBX.out.h8
  have fr1 := frozen_of (j := 1) HBX.out.h8
  go_wp2_with fail
  refine (Take_small W p.g N HQ.out).mono ?_
  rintro e w1 ⟨rfl, rfl⟩
  go_wp2_with fail
  refine (rTake_small W p.r N HQ.out).mono ?_
  rintro e w1 ⟨rfl, rfl⟩
  go_wp2_with fail
  refine (keep_calls W P h OA oc WA wc os ws f1 ⟨none, 0, 0, []⟩ HS0.out.k (sl_nil _ _) (fun k hk => by obtain ⟨ad, e, _⟩ := hk; cases e) hn (by simp)).mono ?_
  rintro e W3 ⟨rfl, OA3, oc3, WA3, wc3, m3, f3, hm3, hk3, hl3⟩
  have HS3 := Aside0.mk (HS0.out.keep hk3 hl3 (by simp))
  have HB3 := Aside0.mk (HBX.out.lt hl3 k012_100)
  have HLT3 := Aside0.mk ((HL0.out.mono (U := TT c) (fun _ h => h.elim)).trans (hl3.mono k012_tt))
  clear cp0 cp1 co0 co1 cx1 cx2 cx3 cr0 cr1 fr0 fr1
  clear hm3 hk3 hl3
  have cp0 := cell_of (j := 0) (v := .pointer (some ⟨p.g, 0, none⟩)) HB3.out.h4 rfl
  have cp1 := cell_of (j := 1) (v := .pointer (some ⟨p.r, 0, none⟩)) HB3.out.h4 rfl
  have co0 := cell_of (j := 0) (v := .pointer (some ⟨o.g, 0, none⟩)) HB3.out.h5 rfl
  have co1 := cell_of (j := 1) (v := .pointer (some ⟨o.r, 0, none⟩)) HB3.out.h5 rfl
  have cx1 := cell_of (j := 1) (v := .int .i64 0) HB3.out.h7 rfl
  have cx2 := cell_of (j := 2) (v := .int .i64 N) HB3.out.h7 rfl
  have cx3 := cell_of (j := 3) (v := .slice LA ln lc) HB3.out.h7 rfl
  have cr0 := cell_of (j := 0) (v := .pointer none) HB3.out.h8 rfl
  have cr1 := cell_of (j := 1) (v := .pointer none) HB3.out.h8 rfl
  have fr0 := frozen_of (j := 0) HB3.out.h8
  have fr1 := frozen_of (j := 1) HB3.out.h8
  have HLd := Aside0.mk (show Lt W3 f3 W3.drew f3 (fun _ => False) from Lt.gb (gb_drew W3 none))
  have HSd := Aside0.mk (HS3.out.lt HLd.out (fun _ h => h.elim))
  have HBd := Aside0.mk (HB3.out.lt HLd.out (fun h => h))
  have HLTd := Aside0.mk (HLT3.out.trans (HLd.out.mono (U := TT c) (fun _ h => h.elim)))
  have HC := Aside0.mk (sameInts_calls W3.drew none none 0 0 0 0 [] [] (ints_rd (Rd.nil _ _ _)) (ints_rd (Rd.nil _ _ _)))
  rw [decide_eq_true rfl] at HC
  clear HLd
  go_wp2_with fail
  refine start_ (n := 11) (S := fun w' => w'.cell? ⟨b4, 0, none⟩ = some (.pointer (some ⟨p.g, 0, none⟩)) ∧ w'.cell? ⟨b4, 1, none⟩ = some (.pointer (some ⟨p.r, 0, none⟩))) (ds := [9]) #[false, false, false, false, false, false, false, false, false, false, false] (by kernel_rfl) rfl rfl ⟨cell_of (j := 0) HBd.out.h4 rfl, cell_of (j := 1) HBd.out.h4 rfl⟩ (fun hHeld => ?_)
  refine pure_ (i := 1) (N := some 46) (v := ?_) (a' := ?_) #[false, true, false, false, false, false, false, false, false, false, false] rfl rfl (by kernel_rfl) (fun _ _ _ h => h) (Or.inl ⟨by rfl, ?_⟩) ?_ ?_
  rotate_left
  · intro w'
    go_simp
    with_reducible rfl
  rotate_left
  · simp only [Act.put, List.setIfInBounds_toArray, List.set_cons_zero, List.set_cons_succ, i64_w, i32_w]
    rfl
  refine pure_ (i := 2) (N := some 47) (v := ?_) (a' := ?_) #[false, true, true, false, false, false, false, false, false, false, false] rfl rfl (by kernel_rfl) (fun _ _ _ h => h) (Or.inl ⟨by rfl, ?_⟩) ?_ ?_
  rotate_left
  · intro w'
    go_simp
    with_reducible rfl
  rotate_left
  · simp only [Act.put, List.setIfInBounds_toArray, List.set_cons_zero, List.set_cons_succ, i64_w, i32_w]
    rfl
  refine pure_ (i := 3) (N := some 48) (v := ?_) (a' := ?_) #[false, true, true, true, false, false, false, false, false, false, false] rfl rfl (by kernel_rfl) (fun _ _ _ h => h) (Or.inl ⟨by rfl, ?_⟩) ?_ ?_
  rotate_left
  · intro w'
    go_simp
    with_reducible rfl
  rotate_left
  · simp only [Act.put, List.setIfInBounds_toArray, List.set_cons_zero, List.set_cons_succ, i64_w, i32_w]
    rfl
  refine pure_ (i := 4) (N := some 49) (v := ?_) (a' := ?_) #[false, true, true, true, true, false, false, false, false, false, false] rfl rfl (by kernel_rfl) (fun _ _ _ h => h) (Or.inl ⟨by rfl, ?_⟩) ?_ ?_
  rotate_left
  · intro w'
    go_simp
    with_reducible rfl
  rotate_left
  · simp only [Act.put, List.setIfInBounds_toArray, List.set_cons_zero, List.set_cons_succ, i64_w, i32_w]
    rfl
  refine pure_ (i := 5) (N := some 50) (v := ?_) (a' := ?_) #[false, true, true, true, true, true, false, false, false, false, false] rfl rfl (by kernel_rfl) (fun _ _ _ h => h) (Or.inl ⟨by rfl, ?_⟩) ?_ ?_
  rotate_left
  · intro w'
    go_simp
    with_reducible rfl
  rotate_left
  · simp only [Act.put, List.setIfInBounds_toArray, List.set_cons_zero, List.set_cons_succ, i64_w, i32_w]
    rfl
  refine pure_ (i := 6) (N := some 51) (v := ?_) (a' := ?_) #[false, true, true, true, true, true, true, false, false, false, false] rfl rfl (by kernel_rfl) (fun _ _ _ h => h) (Or.inl ⟨by rfl, ?_⟩) ?_ ?_
  rotate_left
  · intro w'
    go_simp
    with_reducible rfl
  rotate_left
  · simp only [Act.put, List.setIfInBounds_toArray, List.set_cons_zero, List.set_cons_succ, i64_w, i32_w]
    rfl
  refine take_ (i := 0) (N := some 45) (v := ?_) (a' := ?_) #[true, true, true, true, true, true, true, false, false, false, false] rfl rfl (by kernel_rfl) (fun _ _ _ h => h) (Or.inl ⟨by rfl, ?_⟩) hHeld ?_ ?_
  rotate_left
  · rintro w' ⟨s0, s1⟩
    go_simp
    with_reducible rfl
  rotate_left
  · simp only [Act.put, List.setIfInBounds_toArray, List.set_cons_zero, List.set_cons_succ, i64_w, i32_w]
    rfl
  refine one_ (i := 7) (N := some 52) #[true, true, true, true, true, true, true, true, false, false, false] rfl rfl (by kernel_rfl) (by decide) (fun K hK => ?_)
  refine goes_ Try.func11 (by kernel_rfl) rfl #[.slice none 0 0, .slice none 0 0] (by rfl) rfl rfl (by simp only [List.map_toArray, List.map_cons, List.map_nil]; try rfl) ?_
  with_reducible refine (HC.out).mono ?_
  rintro e w9 ⟨rfl, hg⟩
  refine ⟨_, rfl, ?_⟩
  have HL9 := Aside0.mk (show Lt W3.drew f3 w9 f3 (fun _ => False) from Lt.gb hg); have HS9 := Aside0.mk (HSd.out.lt HL9.out (fun _ h => h.elim)); have HB9 := Aside0.mk (HBd.out.lt HL9.out (fun h => h)); have HLT9 := Aside0.mk (HLTd.out.trans (HL9.out.mono (U := TT c) (fun _ h => h.elim))); clear hg HC HL9 HSd HBd HLTd; have q8a := cell_of (j := 0) (v := .pointer none) HB9.out.h8 rfl; have q8b := cell_of (j := 1) (v := .pointer none) HB9.out.h8 rfl; have q8c := frozen_of (j := 0) HB9.out.h8; have q8d := frozen_of (j := 1) HB9.out.h8
  refine hK.out _ _ ⟨cell_of (j := 0) HB9.out.h4 rfl, cell_of (j := 1) HB9.out.h4 rfl⟩ (fun hHeld => ?_)
  clear hK K
  refine norm_ (a' := ?_) ?_ ?_
  rotate_left
  · show Act.put _ (some 52) _ = _
    simp only [Act.put, List.setIfInBounds_toArray, List.set_cons_zero, List.set_cons_succ, i64_w, i32_w]
    rfl
  refine pure_ (i := 8) (N := some 53) (v := ?_) (a' := ?_) #[true, true, true, true, true, true, true, true, true, false, false] rfl rfl (by kernel_rfl) (fun _ _ _ h => h) (Or.inl ⟨by rfl, ?_⟩) ?_ ?_
  rotate_left
  · intro w'
    go_simp
    with_reducible rfl
  rotate_left
  · simp only [Act.put, List.setIfInBounds_toArray, List.set_cons_zero, List.set_cons_succ, i64_w, i32_w]
    rfl
  refine last_ (i := 9) (N := none) #[true, true, true, true, true, true, true, true, true, true, false] rfl rfl (by kernel_rfl) (by decide) (fun K hK => ?_)
  refine skip_ (w1 := ?_) (by rfl) rfl ?_ ?_
  rotate_left
  · go_simp
    rfl
  refine hK.out _ _ ?_
  clear hK K
  refine pure_ (i := 10) (N := some 9) (v := ?_) (a' := ?_) #[true, true, true, true, true, true, true, true, true, true, true] rfl rfl (by kernel_rfl) (fun _ _ _ h => h) (Or.inl ⟨by rfl, ?_⟩) ?_ ?_
  rotate_left
  · intro w'
    go_simp
    with_reducible rfl
  rotate_left
  · simp only [Act.put, List.setIfInBounds_toArray, List.set_cons_zero, List.set_cons_succ, i64_w, i32_w]
    rfl
  refine done_ (by kernel_rfl) ?_
  go_wp2_with fail
  obtain ⟨hend, hblk⟩ := step_end (os := os) HS9.out HB9.out HLT9.out (by simp) HZ8.out
  refine bodyPost_ret (results_ct rfl _ _ b8 45 _ (0, 0) _ rfl hblk Try.underlying45 rfl (by kernel_rfl)) rfl ?_
  exact hend
set_option maxHeartbeats 8000000 in
set_option maxRecDepth 100000 in
theorem step_take_many (w : World) (P h : Nat) (f : Nat → Int) (c d : Int) (p o : Pr) (OA : Option Addr) (oc : Nat) (WA : Option Addr) (wc : Nat) (os ws : List Sl) (hs : St w P f c d p o h OA oc WA wc os ws) (sec : Bool) (N : Int) (LA : Option Addr) (ln lc : Nat) (hn : os.length ≤ 1000) (h0 : 1 ≤ N) (hq : ((freeTo p.n p.t p.n).length : Int) < N) :
    Calls Try.prog 16 #[p.val, o.val, .pointer (some ⟨h, 0, none⟩), .agg #[.bool sec, .int .i64 0, .int .i64 N, .slice LA ln lc]] w (StepI w P f c d o h os) := by
  have H0 := Aside0.mk h0
  have HQ := Aside0.mk hq
  clear h0 hq
  obtain ⟨f1, hf1⟩ : ∃ f1 : Nat → Int, f1 = fun i => if i < w.heap.size then f i else -100 := ⟨_, rfl⟩
  obtain ⟨hbx, hg⟩ := step_boxes w f p o sec 0 N LA ln lc
  rw [← hf1] at hbx
  have HL0 := Aside0.mk (show Lt w f ((((w.alloc (.cells #[.pointer (some ⟨p.g, 0, none⟩), .pointer (some ⟨p.r, 0, none⟩)] 45)).alloc (.cells #[.pointer (some ⟨o.g, 0, none⟩), .pointer (some ⟨o.r, 0, none⟩)] 45)).alloc (.cells #[.bool sec, .int .i64 0, .int .i64 N, .slice LA ln lc] 47)).alloc (.cells #[.pointer none, .pointer none] 45)) f1 (fun _ => False) from ⟨Tn.gb0 hg _, fun i hi => by rw [hf1]; exact if_pos hi⟩)
  have HS0 := Aside0.mk (hs.lt HL0.out (fun _ h => h.elim))
  have HBX := Aside0.mk hbx
  have HZ4 : Aside0 (w.heap.size ≤ w.heap.size) := ⟨Nat.le_refl _⟩
  have HZ8 : Aside0 (w.heap.size ≤ w.heap.size + 1 + 1 + 1) := ⟨by omega⟩
  clear hs hbx hg hf1
  unfold Pr.val
  go_enter Try.func16, Try.ntmps16
  go_upto_region 1 with (fail)
  generalize ((((w.alloc (.cells #[.pointer (some ⟨p.g, 0, none⟩), .pointer (some ⟨p.r, 0, none⟩)] 45)).alloc (.cells #[.pointer (some ⟨o.g, 0, none⟩), .pointer (some ⟨o.r, 0, none⟩)] 45)).alloc (.cells #[.bool sec, .int .i64 0, .int .i64 N, .slice LA ln lc] 47)).alloc (.cells #[.pointer none, .pointer none] 45)) = W at HBX HL0 HS0 ⊢
  generalize hb8 : w.heap.size + 1 + 1 + 1 = b8 at HBX HZ8 ⊢
  generalize hb7 : w.heap.size + 1 + 1 = b7 at HBX ⊢
  generalize hb5 : w.heap.size + 1 = b5 at HBX ⊢
  obtain ⟨b4, hb4⟩ : ∃ b4, b4 = w.heap.size := ⟨_, rfl⟩
  rw [← hb4] at HBX ⊢
  rw [← hb4] at HZ4
  have HZ4 : Aside0 (w.heap.size ≤ b4) := ⟨by omega⟩
  clear hb8 hb7 hb5 hb4
  have cp0 := cell_of (j := 0) (v := .pointer (some ⟨p.g, 0, none⟩)) HBX.out.h4 rfl
  have cp1 := cell_of (j := 1) (v := .pointer (some ⟨p.r, 0, none⟩)) HBX.out.h4 rfl
  have co0 := cell_of (j := 0) (v := .pointer (some ⟨o.g, 0, none⟩)) HBX.out.h5 rfl
  have co1 := cell_of (j := 1) (v := .pointer (some ⟨o.r, 0, none⟩)) HBX.out.h5 rfl
  have cx1 := cell_of (j := 1) (v := .int .i64 0) HBX.out.h7 rfl
  have cx2 := cell_of (j := 2) (v := .int .i64 N) HBX.out.h7 rfl
  have cx3 := cell_of (j := 3) (v := .slice LA ln lc) HBX.out.h7 rfl
  have cr0 := cell_of (j := 0) (v := .pointer none) HBX.out.h8 rfl
  have cr1 := cell_of (j := 1) (v := .pointer none) HBX.out.h8 rfl
  have fr0 := frozen_of (j := 0) HBX.out.h8
  have fr1 := frozen_of (j := 1) HBX.out.h8
  go_wp2_with fail
  refine (Take_many W p.g p.n p.t N HS0.out.p.s HQ.out H0.out).mono ?_
  rintro e W1 ⟨rfl, hg1⟩
  have hl1 : Lt W f1 W1 f1 (fun _ => False) := Lt.gb hg1
  have HS1 := Aside0.mk (HS0.out.lt hl1 (fun _ h => h.elim))
  have HB1 := Aside0.mk (HBX.out.lt hl1 (fun h => h))
  have HL1 := Aside0.mk (HL0.out.trans hl1)
  clear cp0 cp1 co0 co1 cx1 cx2 cx3 cr0 cr1 fr0 fr1
  clear hg1 hl1
  have cp0 := cell_of (j := 0) (v := .pointer (some ⟨p.g, 0, none⟩)) HB1.out.h4 rfl
  have cp1 := cell_of (j := 1) (v := .pointer (some ⟨p.r, 0, none⟩)) HB1.out.h4 rfl
  have co0 := cell_of (j := 0) (v := .pointer (some ⟨o.g, 0, none⟩)) HB1.out.h5 rfl
  have co1 := cell_of (j := 1) (v := .pointer (some ⟨o.r, 0, none⟩)) HB1.out.h5 rfl
  have cx1 := cell_of (j := 1) (v := .int .i64 0) HB1.out.h7 rfl
  have cx2 := cell_of (j := 2) (v := .int .i64 N) HB1.out.h7 rfl
  have cx3 := cell_of (j := 3) (v := .slice LA ln lc) HB1.out.h7 rfl
  have cr0 := cell_of (j := 0) (v := .pointer none) HB1.out.h8 rfl
  have cr1 := cell_of (j := 1) (v := .pointer none) HB1.out.h8 rfl
  have fr0 := frozen_of (j := 0) HB1.out.h8
  have fr1 := frozen_of (j := 1) HB1.out.h8
  go_wp2_with fail
  refine (rTake_many W1 P p.r p.ab p.n p.c p.t N HS1.out.p.d HQ.out H0.out).mono ?_
  rintro e W2 ⟨rfl, hg2⟩
  have hl2 : Lt W1 f1 W2 f1 (fun _ => False) := Lt.gb hg2
  have HS2 := Aside0.mk (HS1.out.lt hl2 (fun _ h => h.elim))
  have HB2 := Aside0.mk (HB1.out.lt hl2 (fun h => h))
  have HL2 := Aside0.mk (HL1.out.trans hl2)
  clear cp0 cp1 co0 co1 cx1 cx2 cx3 cr0 cr1 fr0 fr1
  clear hg2 hl2
  have cp0 := cell_of (j := 0) (v := .pointer (some ⟨p.g, 0, none⟩)) HB2.out.h4 rfl
  have cp1 := cell_of (j := 1) (v := .pointer (some ⟨p.r, 0, none⟩)) HB2.out.h4 rfl
  have co0 := cell_of (j := 0) (v := .pointer (some ⟨o.g, 0, none⟩)) HB2.out.h5 rfl
  have co1 := cell_of (j := 1) (v := .pointer (some ⟨o.r, 0, none⟩)) HB2.out.h5 rfl
  have cx1 := cell_of (j := 1) (v := .int .i64 0) HB2.out.h7 rfl
  have cx2 := cell_of (j := 2) (v := .int .i64 N) HB2.out.h7 rfl
  have cx3 := cell_of (j := 3) (v := .slice LA ln lc) HB2.out.h7 rfl
  have cr0 := cell_of (j := 0) (v := .pointer none) HB2.out.h8 rfl
  have cr1 := cell_of (j := 1) (v := .pointer none) HB2.out.h8 rfl
  have fr0 := frozen_of (j := 0) HB2.out.h8
  have fr1 := frozen_of (j := 1) HB2.out.h8
  go_wp2_with fail
  refine (keep_calls W2 P h OA oc WA wc os ws f1 ⟨none, 0, 0, []⟩ HS2.out.k (sl_nil _ _) (fun k hk => by obtain ⟨ad, e, _⟩ := hk; cases e) hn (by simp)).mono ?_
  rintro e W3 ⟨rfl, OA3, oc3, WA3, wc3, m3, f3, hm3, hk3, hl3⟩
  have HS3 := Aside0.mk (HS2.out.keep hk3 hl3 (by simp))
  have HB3 := Aside0.mk (HB2.out.lt hl3 k012_100)
  have HLT3 := Aside0.mk ((HL2.out.mono (U := TT c) (fun _ h => h.elim)).trans (hl3.mono k012_tt))
  clear cp0 cp1 co0 co1 cx1 cx2 cx3 cr0 cr1 fr0 fr1
  clear hm3 hk3 hl3
  have cp0 := cell_of (j := 0) (v := .pointer (some ⟨p.g, 0, none⟩)) HB3.out.h4 rfl
  have cp1 := cell_of (j := 1) (v := .pointer (some ⟨p.r, 0, none⟩)) HB3.out.h4 rfl
  have co0 := cell_of (j := 0) (v := .pointer (some ⟨o.g, 0, none⟩)) HB3.out.h5 rfl
  have co1 := cell_of (j := 1) (v := .pointer (some ⟨o.r, 0, none⟩)) HB3.out.h5 rfl
  have cx1 := cell_of (j := 1) (v := .int .i64 0) HB3.out.h7 rfl
  have cx2 := cell_of (j := 2) (v := .int .i64 N) HB3.out.h7 rfl
  have cx3 := cell_of (j := 3) (v := .slice LA ln lc) HB3.out.h7 rfl
  have cr0 := cell_of (j := 0) (v := .pointer none) HB3.out.h8 rfl
  have cr1 := cell_of (j := 1) (v := .pointer none) HB3.out.h8 rfl
  have fr0 := frozen_of (j := 0) HB3.out.h8
  have fr1 := frozen_of (j := 1) HB3.out.h8
  have HLd := Aside0.mk (show Lt W3 f3 W3.drew f3 (fun _ => False) from Lt.gb (gb_drew W3 none))
  have HSd := Aside0.mk (HS3.out.lt HLd.out (fun _ h => h.elim))
  have HBd := Aside0.mk (HB3.out.lt HLd.out (fun h => h))
  have HLTd := Aside0.mk (HLT3.out.trans (HLd.out.mono (U := TT c) (fun _ h => h.elim)))
  have HC := Aside0.mk (sameInts_calls W3.drew none none 0 0 0 0 [] [] (ints_rd (Rd.nil _ _ _)) (ints_rd (Rd.nil _ _ _)))
  rw [decide_eq_true rfl] at HC
  clear HLd
  go_wp2_with fail
  refine start_ (n := 11) (S := fun w' => w'.cell? ⟨b4, 0, none⟩ = some (.pointer (some ⟨p.g, 0, none⟩)) ∧ w'.cell? ⟨b4, 1, none⟩ = some (.pointer (some ⟨p.r, 0, none⟩))) (ds := [9]) #[false, false, false, false, false, false, false, false, false, false, false] (by kernel_rfl) rfl rfl ⟨cell_of (j := 0) HBd.out.h4 rfl, cell_of (j := 1) HBd.out.h4 rfl⟩ (fun hHeld => ?_)
  refine pure_ (i := 1) (N := some 46) (v := ?_) (a' := ?_) #[false, true, false, false, false, false, false, false, false, false, false] rfl rfl (by kernel_rfl) (fun _ _ _ h => h) (Or.inl ⟨by rfl, ?_⟩) ?_ ?_
  rotate_left
  · intro w'
    go_simp
    with_reducible rfl
  rotate_left
  · simp only [Act.put, List.setIfInBounds_toArray, List.set_cons_zero, List.set_cons_succ, i64_w, i32_w]
    rfl
  refine pure_ (i := 2) (N := some 47) (v := ?_) (a' := ?_) #[false, true, true, false, false, false, false, false, false, false, false] rfl rfl (by kernel_rfl) (fun _ _ _ h => h) (Or.inl ⟨by rfl, ?_⟩) ?_ ?_
  rotate_left
  · intro w'
    go_simp
    with_reducible rfl
  rotate_left
  · simp only [Act.put, List.setIfInBounds_toArray, List.set_cons_zero, List.set_cons_succ, i64_w, i32_w]
    rfl
  refine pure_ (i := 3) (N := some 48) (v := ?_) (a' := ?_) #[false, true, true, true, false, false, false, false, false, false, false] rfl rfl (by kernel_rfl) (fun _ _ _ h => h) (Or.inl ⟨by rfl, ?_⟩) ?_ ?_
  rotate_left
  · intro w'
    go_simp
    with_reducible rfl
  rotate_left
  · simp only [Act.put, List.setIfInBounds_toArray, List.set_cons_zero, List.set_cons_succ, i64_w, i32_w]
    rfl
  refine pure_ (i := 4) (N := some 49) (v := ?_) (a' := ?_) #[false, true, true, true, true, false, false, false, false, false, false] rfl rfl (by kernel_rfl) (fun _ _ _ h => h) (Or.inl ⟨by rfl, ?_⟩) ?_ ?_
  rotate_left
  · intro w'
    go_simp
    with_reducible rfl
  rotate_left
  · simp only [Act.put, List.setIfInBounds_toArray, List.set_cons_zero, List.set_cons_succ, i64_w, i32_w]
    rfl
  refine pure_ (i := 5) (N := some 50) (v := ?_) (a' := ?_) #[false, true, true, true, true, true, false, false, false, false, false] rfl rfl (by kernel_rfl) (fun _ _ _ h => h) (Or.inl ⟨by rfl, ?_⟩) ?_ ?_
  rotate_left
  · intro w'
    go_simp
    with_reducible rfl
  rotate_left
  · simp only [Act.put, List.setIfInBounds_toArray, List.set_cons_zero, List.set_cons_succ, i64_w, i32_w]
    rfl
  refine pure_ (i := 6) (N := some 51) (v := ?_) (a' := ?_) #[false, true, true, true, true, true, true, false, false, false, false] rfl rfl (by kernel_rfl) (fun _ _ _ h => h) (Or.inl ⟨by rfl, ?_⟩) ?_ ?_
  rotate_left
  · intro w'
    go_simp
    with_reducible rfl
  rotate_left
  · simp only [Act.put, List.setIfInBounds_toArray, List.set_cons_zero, List.set_cons_succ, i64_w, i32_w]
    rfl
  refine take_ (i := 0) (N := some 45) (v := ?_) (a' := ?_) #[true, true, true, true, true, true, true, false, false, false, false] rfl rfl (by kernel_rfl) (fun _ _ _ h => h) (Or.inl ⟨by rfl, ?_⟩) hHeld ?_ ?_
  rotate_left
  · rintro w' ⟨s0, s1⟩
    go_simp
    with_reducible rfl
  rotate_left
  · simp only [Act.put, List.setIfInBounds_toArray, List.set_cons_zero, List.set_cons_succ, i64_w, i32_w]
    rfl
  refine one_ (i := 7) (N := some 52) #[true, true, true, true, true, true, true, true, false, false, false] rfl rfl (by kernel_rfl) (by decide) (fun K hK => ?_)
  refine goes_ Try.func11 (by kernel_rfl) rfl #[.slice none 0 0, .slice none 0 0] (by rfl) rfl rfl (by simp only [List.map_toArray, List.map_cons, List.map_nil]; try rfl) ?_
  with_reducible refine (HC.out).mono ?_
  rintro e w9 ⟨rfl, hg⟩
  refine ⟨_, rfl, ?_⟩
  have HL9 := Aside0.mk (show Lt W3.drew f3 w9 f3 (fun _ => False) from Lt.gb hg); have HS9 := Aside0.mk (HSd.out.lt HL9.out (fun _ h => h.elim)); have HB9 := Aside0.mk (HBd.out.lt HL9.out (fun h => h)); have HLT9 := Aside0.mk (HLTd.out.trans (HL9.out.mono (U := TT c) (fun _ h => h.elim))); clear hg HC HL9 HSd HBd HLTd; have q8a := cell_of (j := 0) (v := .pointer none) HB9.out.h8 rfl; have q8b := cell_of (j := 1) (v := .pointer none) HB9.out.h8 rfl; have q8c := frozen_of (j := 0) HB9.out.h8; have q8d := frozen_of (j := 1) HB9.out.h8
  refine hK.out _ _ ⟨cell_of (j := 0) HB9.out.h4 rfl, cell_of (j := 1) HB9.out.h4 rfl⟩ (fun hHeld => ?_)
  clear hK K
  refine norm_ (a' := ?_) ?_ ?_
  rotate_left
  · show Act.put _ (some 52) _ = _
    simp only [Act.put, List.setIfInBounds_toArray, List.set_cons_zero, List.set_cons_succ, i64_w, i32_w]
    rfl
  refine pure_ (i := 8) (N := some 53) (v := ?_) (a' := ?_) #[true, true, true, true, true, true, true, true, true, false, false] rfl rfl (by kernel_rfl) (fun _ _ _ h => h) (Or.inl ⟨by rfl, ?_⟩) ?_ ?_
  rotate_left
  · intro w'
    go_simp
    with_reducible rfl
  rotate_left
  · simp only [Act.put, List.setIfInBounds_toArray, List.set_cons_zero, List.set_cons_succ, i64_w, i32_w]
    rfl
  refine last_ (i := 9) (N := none) #[true, true, true, true, true, true, true, true, true, true, false] rfl rfl (by kernel_rfl) (by decide) (fun K hK => ?_)
  refine skip_ (w1 := ?_) (by rfl) rfl ?_ ?_
  rotate_left
  · go_simp
    rfl
  refine hK.out _ _ ?_
  clear hK K
  refine pure_ (i := 10) (N := some 9) (v := ?_) (a' := ?_) #[true, true, true, true, true, true, true, true, true, true, true] rfl rfl (by kernel_rfl) (fun _ _ _ h => h) (Or.inl ⟨by rfl, ?_⟩) ?_ ?_
  rotate_left
  · intro w'
    go_simp
    with_reducible rfl
  rotate_left
  · simp only [Act.put, List.setIfInBounds_toArray, List.set_cons_zero, List.set_cons_succ, i64_w, i32_w]
    rfl
  refine done_ (by kernel_rfl) ?_
  go_wp2_with fail
  obtain ⟨hend, hblk⟩ := step_end (os := os) HS9.out HB9.out HLT9.out (by simp) HZ8.out
  refine bodyPost_ret (results_ct rfl _ _ b8 45 _ (0, 0) _ rfl hblk Try.underlying45 rfl (by kernel_rfl)) rfl ?_
  exact hend
set_option maxHeartbeats 8000000 in
set_option maxRecDepth 100000 in
theorem step_take_ok (w : World) (P h : Nat) (f : Nat → Int) (c d : Int) (p o : Pr) (OA : Option Addr) (oc : Nat) (WA : Option Addr) (wc : Nat) (os ws : List Sl) (hs : St w P f c d p o h OA oc WA wc os ws) (sec : Bool) (N : Int) (LA : Option Addr) (ln lc : Nat) (hn : os.length ≤ 1000) (m : Nat) (hN : N = m) (h0 : 1 ≤ m) (hq : m ≤ (freeTo p.n p.t p.n).length) :
    Calls Try.prog 16 #[p.val, o.val, .pointer (some ⟨h, 0, none⟩), .agg #[.bool sec, .int .i64 0, .int .i64 N, .slice LA ln lc]] w (StepI w P f c d o h os) := by
  subst hN
  have H0 := Aside0.mk h0
  have HQ := Aside0.mk hq
  clear h0 hq
  obtain ⟨f1, hf1⟩ : ∃ f1 : Nat → Int, f1 = fun i => if i < w.heap.size then f i else -100 := ⟨_, rfl⟩
  obtain ⟨hbx, hg⟩ := step_boxes w f p o sec 0 (m : Nat) LA ln lc
  rw [← hf1] at hbx
  have HL0 := Aside0.mk (show Lt w f ((((w.alloc (.cells #[.pointer (some ⟨p.g, 0, none⟩), .pointer (some ⟨p.r, 0, none⟩)] 45)).alloc (.cells #[.pointer (some ⟨o.g, 0, none⟩), .pointer (some ⟨o.r, 0, none⟩)] 45)).alloc (.cells #[.bool sec, .int .i64 0, .int .i64 (m : Nat), .slice LA ln lc] 47)).alloc (.cells #[.pointer none, .pointer none] 45)) f1 (fun _ => False) from ⟨Tn.gb0 hg _, fun i hi => by rw [hf1]; exact if_pos hi⟩)
  have HS0 := Aside0.mk (hs.lt HL0.out (fun _ h => h.elim))
  have HBX := Aside0.mk hbx
  have HZ4 : Aside0 (w.heap.size ≤ w.heap.size) := ⟨Nat.le_refl _⟩
  have HZ8 : Aside0 (w.heap.size ≤ w.heap.size + 1 + 1 + 1) := ⟨by omega⟩
  clear hs hbx hg hf1
  unfold Pr.val
  go_enter Try.func16, Try.ntmps16
  go_upto_region 1 with (fail)
  generalize ((((w.alloc (.cells #[.pointer (some ⟨p.g, 0, none⟩), .pointer (some ⟨p.r, 0, none⟩)] 45)).alloc (.cells #[.pointer (some ⟨o.g, 0, none⟩), .pointer (some ⟨o.r, 0, none⟩)] 45)).alloc (.cells #[.bool sec, .int .i64 0, .int .i64 (m : Nat), .slice LA ln lc] 47)).alloc (.cells #[.pointer none, .pointer none] 45)) = W at HBX HL0 HS0 ⊢
  generalize hb8 : w.heap.size + 1 + 1 + 1 = b8 at HBX HZ8 ⊢
  generalize hb7 : w.heap.size + 1 + 1 = b7 at HBX ⊢
  generalize hb5 : w.heap.size + 1 = b5 at HBX ⊢
  obtain ⟨b4, hb4⟩ : ∃ b4, b4 = w.heap.size := ⟨_, rfl⟩
  rw [← hb4] at HBX ⊢
  rw [← hb4] at HZ4
  have HZ4 : Aside0 (w.heap.size ≤ b4) := ⟨by omega⟩
  clear hb8 hb7 hb5 hb4
  have cp0 := cell_of (j := 0) (v := .pointer (some ⟨p.g, 0, none⟩)) HBX.out.h4 rfl
  have cp1 := cell_of (j := 1) (v := .pointer (some ⟨p.r, 0, none⟩)) HBX.out.h4 rfl
  have co0 := cell_of (j := 0) (v := .pointer (some ⟨o.g, 0, none⟩)) HBX.out.h5 rfl
  have co1 := cell_of (j := 1) (v := .pointer (some ⟨o.r, 0, none⟩)) HBX.out.h5 rfl
  have cx1 := cell_of (j := 1) (v := .int .i64 0) HBX.out.h7 rfl
  have cx2 := cell_of (j := 2) (v := .int .i64 (m : Nat)) HBX.out.h7 rfl
  have cx3 := cell_of (j := 3) (v := .slice LA ln lc) HBX.out.h7 rfl
  have cr0 := cell_of (j := 0) (v := .pointer none) HBX.out.h8 rfl
  have cr1 := cell_of (j := 1) (v := .pointer none) HBX.out.h8 rfl
  have fr0 := frozen_of (j := 0) HBX.out.h8
  have fr1 := frozen_of (j := 1) HBX.out.h8
  obtain ⟨xs, hxs⟩ : ∃ xs, xs = (freeTo p.n p.t p.n).take m := ⟨_, rfl⟩
  have HXS := Aside0.mk hxs
  have HXL := Aside0.mk (show xs.length ≤ 256 by
    have h1 := freeTo_len p.n p.t p.n
    have h2 := HS0.out.p.s.le
    rw [hxs, List.length_take]; omega)
  have HCD := Aside0.mk HS0.out.cd
  clear hxs
  go_wp2_with fail
  refine (Take_ok W p.g p.n p.t m HS0.out.p.s HQ.out H0.out).mono ?_
  rintro e W1 ⟨v, rfl, ho, hs1, hg1⟩
  rw [← HXS.out] at ho hs1
  rw [← flat_nums] at ho
  obtain ⟨aA, ac, rfl, hra, -, hab⟩ := own_open (E := Ei .i64) rfl ho
  obtain ⟨f2, hl1, hf2⟩ := Lt.new (f := f1) (T := fun x => x = c) (Tn.of_gb hg1 (fun k hk => by cases hk; exact HS0.out.p.fg)) (3 + 2 * (os.length : Int))
  have HR1 := Aside0.mk (HS0.out.re.lt hl1 (fun x e => by omega))
  have HD1 := Aside0.mk (HS0.out.p.d.tn hl1.tn (by rw [HS0.out.p.fr]; omega) (by rw [HS0.out.p.fa]; omega))
  have HSET1 := Aside0.mk hs1
  have HB1 := Aside0.mk (HBX.out.lt hl1 (fun h => by have := HCD.out; omega))
  have HL1 := Aside0.mk ((HL0.out.mono (U := TT c) (fun _ h => h.elim)).trans (hl1.mono (U := TT c) (fun x e => .inl e)))
  have HOW1 := Aside0.mk (show SlOwn W1 P ⟨aA, xs.length, ac, xs⟩ from own_mono ho HS0.out.size)
  have HFA := Aside0.mk (show ∀ k, blkOf aA k → f2 k = 3 + 2 * (os.length : Int) ∧ k < W1.heap.size from fun k hk => by
    have := ho.lt k (blk_own.2 hk)
    exact ⟨hf2 k this.1, this.2⟩)
  have HP1 := Aside0.mk (show f2 p.g = c ∧ f2 p.r = c - 1 ∧ f2 p.ab = c - 2 ∧ p.g < W1.heap.size from ⟨by rw [hl1.lab _ HS0.out.p.gl]; exact HS0.out.p.fg, by rw [hl1.lab _ HS0.out.p.d.lt]; exact HS0.out.p.fr, by rw [hl1.lab _ HS0.out.p.d.abl.2]; exact HS0.out.p.fa, Nat.lt_of_lt_of_le HS0.out.p.gl hl1.tn.size⟩)
  clear cp0 cp1 co0 co1 cx1 cx2 cx3 cr0 cr1 fr0 fr1
  clear hra hab ho hs1 hg1 hl1 hf2
  have cp0 := cell_of (j := 0) (v := .pointer (some ⟨p.g, 0, none⟩)) HB1.out.h4 rfl
  have cp1 := cell_of (j := 1) (v := .pointer (some ⟨p.r, 0, none⟩)) HB1.out.h4 rfl
  have co0 := cell_of (j := 0) (v := .pointer (some ⟨o.g, 0, none⟩)) HB1.out.h5 rfl
  have co1 := cell_of (j := 1) (v := .pointer (some ⟨o.r, 0, none⟩)) HB1.out.h5 rfl
  have cx1 := cell_of (j := 1) (v := .int .i64 0) HB1.out.h7 rfl
  have cx2 := cell_of (j := 2) (v := .int .i64 (m : Nat)) HB1.out.h7 rfl
  have cx3 := cell_of (j := 3) (v := .slice LA ln lc) HB1.out.h7 rfl
  have cr0 := cell_of (j := 0) (v := .pointer none) HB1.out.h8 rfl
  have cr1 := cell_of (j := 1) (v := .pointer none) HB1.out.h8 rfl
  have fr0 := frozen_of (j := 0) HB1.out.h8
  have fr1 := frozen_of (j := 1) HB1.out.h8
  go_wp2_with fail
  refine (rTake_ok W1 P p.r p.ab p.n p.c p.t m HD1.out HQ.out H0.out).mono ?_
  rintro e W2 ⟨bA, bc, rfl, hrb, hbb, hd2, ht2⟩
  rw [← HXS.out] at hrb hd2 ⊢
  obtain ⟨f3', hl2, hf3⟩ := Lt.new (f := f2) (T := fun x => x = c - 2) (ht2.mono (fun i _ e => by rw [e]; exact HP1.out.2.2.1)) (-100)
  have HR2 := Aside0.mk (HR1.out.lt hl2 (fun x e => by omega))
  have HP2 := Aside0.mk (show PrAt W2 P f3' c ⟨p.g, p.r, p.ab, p.n, p.c, turnT p.t xs⟩ from
    ⟨set_tn HSET1.out hl2.tn (by rw [HP1.out.1]; omega), hd2, HS0.out.p.one, HS0.out.p.base, by show f3' p.g = c; rw [hl2.lab _ HP1.out.2.2.2]; exact HP1.out.1, by show f3' p.r = _; rw [hl2.lab _ HD1.out.lt]; exact HP1.out.2.1, by show f3' p.ab = _; rw [hl2.lab _ HD1.out.abl.2]; exact HP1.out.2.2.1⟩)
  have HS2 := Aside0.mk (HR2.out.st HP2.out)
  have HB2 := Aside0.mk (HB1.out.lt hl2 (fun h => by have := HCD.out; omega))
  have HL2 := Aside0.mk (HL1.out.trans (hl2.mono (U := TT c) (fun x e => .inr (.inr (.inl e)))))
  have HOW2 := Aside0.mk (HOW1.out.tn hl2.tn (fun k hk e => by have := (HFA.out k hk).1; have := HCD.out; omega))
  have HFA2 := Aside0.mk (show ∀ k, blkOf aA k → f3' k = 3 + 2 * (os.length : Int) from fun k hk => by rw [hl2.lab k (HFA.out k hk).2]; exact (HFA.out k hk).1)
  have HRB2 := Aside0.mk hrb
  have HFB2 := Aside0.mk (show ∀ ad, bA = some ad → f3' ad.block = -100 from fun ad ha => hf3 _ (hbb ad ha))
  clear cp0 cp1 co0 co1 cx1 cx2 cx3 cr0 cr1 fr0 fr1
  clear hrb hbb hd2 ht2 hl2 hf3
  have cp0 := cell_of (j := 0) (v := .pointer (some ⟨p.g, 0, none⟩)) HB2.out.h4 rfl
  have cp1 := cell_of (j := 1) (v := .pointer (some ⟨p.r, 0, none⟩)) HB2.out.h4 rfl
  have co0 := cell_of (j := 0) (v := .pointer (some ⟨o.g, 0, none⟩)) HB2.out.h5 rfl
  have co1 := cell_of (j := 1) (v := .pointer (some ⟨o.r, 0, none⟩)) HB2.out.h5 rfl
  have cx1 := cell_of (j := 1) (v := .int .i64 0) HB2.out.h7 rfl
  have cx2 := cell_of (j := 2) (v := .int .i64 (m : Nat)) HB2.out.h7 rfl
  have cx3 := cell_of (j := 3) (v := .slice LA ln lc) HB2.out.h7 rfl
  have cr0 := cell_of (j := 0) (v := .pointer none) HB2.out.h8 rfl
  have cr1 := cell_of (j := 1) (v := .pointer none) HB2.out.h8 rfl
  have fr0 := frozen_of (j := 0) HB2.out.h8
  have fr1 := frozen_of (j := 1) HB2.out.h8
  go_wp2_with fail
  refine (keep_calls W2 P h OA oc WA wc os ws f3' ⟨aA, xs.length, ac, xs⟩ HS2.out.k HOW2.out HFA2.out hn (by have := HXL.out; show xs.length ≤ 1000; omega)).mono ?_
  rintro e W3 ⟨rfl, OA3, oc3, WA3, wc3, m3, f3, hm3, hk3, hl3⟩
  have HS3 := Aside0.mk (HS2.out.keep hk3 hl3 HXL.out)
  have HB3 := Aside0.mk (HB2.out.lt hl3 k012_100)
  have HLT3 := Aside0.mk (HL2.out.trans (hl3.mono k012_tt))
  have HA3 := Aside0.mk (show ReadsInt W3 .i64 aA xs.length xs from ints_rd (hk3.so ⟨aA, xs.length, ac, xs⟩ (by simp)).rd)
  have HR3 := Aside0.mk (show ReadsInt W3 .i64 bA xs.length xs from ints_rd ((rd_ints HRB2.out).tn hl3.tn (fun ad ha _ e => by rw [HFB2.out ad ha] at e; exact k012_100 e)))
  clear cp0 cp1 co0 co1 cx1 cx2 cx3 cr0 cr1 fr0 fr1
  clear hm3 hk3 hl3
  have cp0 := cell_of (j := 0) (v := .pointer (some ⟨p.g, 0, none⟩)) HB3.out.h4 rfl
  have cp1 := cell_of (j := 1) (v := .pointer (some ⟨p.r, 0, none⟩)) HB3.out.h4 rfl
  have co0 := cell_of (j := 0) (v := .pointer (some ⟨o.g, 0, none⟩)) HB3.out.h5 rfl
  have co1 := cell_of (j := 1) (v := .pointer (some ⟨o.r, 0, none⟩)) HB3.out.h5 rfl
  have cx1 := cell_of (j := 1) (v := .int .i64 0) HB3.out.h7 rfl
  have cx2 := cell_of (j := 2) (v := .int .i64 (m : Nat)) HB3.out.h7 rfl
  have cx3 := cell_of (j := 3) (v := .slice LA ln lc) HB3.out.h7 rfl
  have cr0 := cell_of (j := 0) (v := .pointer none) HB3.out.h8 rfl
  have cr1 := cell_of (j := 1) (v := .pointer none) HB3.out.h8 rfl
  have fr0 := frozen_of (j := 0) HB3.out.h8
  have fr1 := frozen_of (j := 1) HB3.out.h8
  have HLd := Aside0.mk (show Lt W3 f3 W3.drew f3 (fun _ => False) from Lt.gb (gb_drew W3 none))
  have HSd := Aside0.mk (HS3.out.lt HLd.out (fun _ h => h.elim))
  have HBd := Aside0.mk (HB3.out.lt HLd.out (fun h => h))
  have HLTd := Aside0.mk (HLT3.out.trans (HLd.out.mono (U := TT c) (fun _ h => h.elim)))
  have HC := Aside0.mk (sameInts_calls W3.drew aA bA xs.length xs.length ac bc xs xs (ints_rd ((rd_ints HA3.out).gb (gb_drew W3 none))) (ints_rd ((rd_ints HR3.out).gb (gb_drew W3 none))))
  rw [decide_eq_true rfl] at HC
  clear HLd
  go_wp2_with fail
  refine start_ (n := 11) (S := fun w' => w'.cell? ⟨b4, 0, none⟩ = some (.pointer (some ⟨p.g, 0, none⟩)) ∧ w'.cell? ⟨b4, 1, none⟩ = some (.pointer (some ⟨p.r, 0, none⟩))) (ds := [9]) #[false, false, false, false, false, false, false, false, false, false, false] (by kernel_rfl) rfl rfl ⟨cell_of (j := 0) HBd.out.h4 rfl, cell_of (j := 1) HBd.out.h4 rfl⟩ (fun hHeld => ?_)
  refine pure_ (i := 1) (N := some 46) (v := ?_) (a' := ?_) #[false, true, false, false, false, false, false, false, false, false, false] rfl rfl (by kernel_rfl) (fun _ _ _ h => h) (Or.inl ⟨by rfl, ?_⟩) ?_ ?_
  rotate_left
  · intro w'
    go_simp
    with_reducible rfl
  rotate_left
  · simp only [Act.put, List.setIfInBounds_toArray, List.set_cons_zero, List.set_cons_succ, i64_w, i32_w]
    rfl
  refine pure_ (i := 2) (N := some 47) (v := ?_) (a' := ?_) #[false, true, true, false, false, false, false, false, false, false, false] rfl rfl (by kernel_rfl) (fun _ _ _ h => h) (Or.inl ⟨by rfl, ?_⟩) ?_ ?_
  rotate_left
  · intro w'
    go_simp
    with_reducible rfl
  rotate_left
  · simp only [Act.put, List.setIfInBounds_toArray, List.set_cons_zero, List.set_cons_succ, i64_w, i32_w]
    rfl
  refine pure_ (i := 3) (N := some 48) (v := ?_) (a' := ?_) #[false, true, true, true, false, false, false, false, false, false, false] rfl rfl (by kernel_rfl) (fun _ _ _ h => h) (Or.inl ⟨by rfl, ?_⟩) ?_ ?_
  rotate_left
  · intro w'
    go_simp
    with_reducible rfl
  rotate_left
  · simp only [Act.put, List.setIfInBounds_toArray, List.set_cons_zero, List.set_cons_succ, i64_w, i32_w]
    rfl
  refine pure_ (i := 4) (N := some 49) (v := ?_) (a' := ?_) #[false, true, true, true, true, false, false, false, false, false, false] rfl rfl (by kernel_rfl) (fun _ _ _ h => h) (Or.inl ⟨by rfl, ?_⟩) ?_ ?_
  rotate_left
  · intro w'
    go_simp
    with_reducible rfl
  rotate_left
  · simp only [Act.put, List.setIfInBounds_toArray, List.set_cons_zero, List.set_cons_succ, i64_w, i32_w]
    rfl
  refine pure_ (i := 5) (N := some 50) (v := ?_) (a' := ?_) #[false, true, true, true, true, true, false, false, false, false, false] rfl rfl (by kernel_rfl) (fun _ _ _ h => h) (Or.inl ⟨by rfl, ?_⟩) ?_ ?_
  rotate_left
  · intro w'
    go_simp
    with_reducible rfl
  rotate_left
  · simp only [Act.put, List.setIfInBounds_toArray, List.set_cons_zero, List.set_cons_succ, i64_w, i32_w]
    rfl
  refine pure_ (i := 6) (N := some 51) (v := ?_) (a' := ?_) #[false, true, true, true, true, true, true, false, false, false, false] rfl rfl (by kernel_rfl) (fun _ _ _ h => h) (Or.inl ⟨by rfl, ?_⟩) ?_ ?_
  rotate_left
  · intro w'
    go_simp
    with_reducible rfl
  rotate_left
  · simp only [Act.put, List.setIfInBounds_toArray, List.set_cons_zero, List.set_cons_succ, i64_w, i32_w]
    rfl
  refine take_ (i := 0) (N := some 45) (v := ?_) (a' := ?_) #[true, true, true, true, true, true, true, false, false, false, false] rfl rfl (by kernel_rfl) (fun _ _ _ h => h) (Or.inl ⟨by rfl, ?_⟩) hHeld ?_ ?_
  rotate_left
  · rintro w' ⟨s0, s1⟩
    go_simp
    with_reducible rfl
  rotate_left
  · simp only [Act.put, List.setIfInBounds_toArray, List.set_cons_zero, List.set_cons_succ, i64_w, i32_w]
    rfl
  refine one_ (i := 7) (N := some 52) #[true, true, true, true, true, true, true, true, false, false, false] rfl rfl (by kernel_rfl) (by decide) (fun K hK => ?_)
  refine goes_ Try.func11 (by kernel_rfl) rfl #[.slice aA xs.length ac, .slice bA xs.length bc] (by rfl) rfl rfl (by simp only [List.map_toArray, List.map_cons, List.map_nil]; try rfl) ?_
  with_reducible refine (HC.out).mono ?_
  rintro e w9 ⟨rfl, hg⟩
  refine ⟨_, rfl, ?_⟩
  have HL9 := Aside0.mk (show Lt W3.drew f3 w9 f3 (fun _ => False) from Lt.gb hg); have HS9 := Aside0.mk (HSd.out.lt HL9.out (fun _ h => h.elim)); have HB9 := Aside0.mk (HBd.out.lt HL9.out (fun h => h)); have HLT9 := Aside0.mk (HLTd.out.trans (HL9.out.mono (U := TT c) (fun _ h => h.elim))); clear hg HC HL9 HSd HBd HLTd; have q8a := cell_of (j := 0) (v := .pointer none) HB9.out.h8 rfl; have q8b := cell_of (j := 1) (v := .pointer none) HB9.out.h8 rfl; have q8c := frozen_of (j := 0) HB9.out.h8; have q8d := frozen_of (j := 1) HB9.out.h8
  refine hK.out _ _ ⟨cell_of (j := 0) HB9.out.h4 rfl, cell_of (j := 1) HB9.out.h4 rfl⟩ (fun hHeld => ?_)
  clear hK K
  refine norm_ (a' := ?_) ?_ ?_
  rotate_left
  · show Act.put _ (some 52) _ = _
    simp only [Act.put, List.setIfInBounds_toArray, List.set_cons_zero, List.set_cons_succ, i64_w, i32_w]
    rfl
  refine pure_ (i := 8) (N := some 53) (v := ?_) (a' := ?_) #[true, true, true, true, true, true, true, true, true, false, false] rfl rfl (by kernel_rfl) (fun _ _ _ h => h) (Or.inl ⟨by rfl, ?_⟩) ?_ ?_
  rotate_left
  · intro w'
    go_simp
    with_reducible rfl
  rotate_left
  · simp only [Act.put, List.setIfInBounds_toArray, List.set_cons_zero, List.set_cons_succ, i64_w, i32_w]
    rfl
  refine last_ (i := 9) (N := none) #[true, true, true, true, true, true, true, true, true, true, false] rfl rfl (by kernel_rfl) (by decide) (fun K hK => ?_)
  refine skip_ (w1 := ?_) (by rfl) rfl ?_ ?_
  rotate_left
  · go_simp
    rfl
  refine hK.out _ _ ?_
  clear hK K
  refine pure_ (i := 10) (N := some 9) (v := ?_) (a' := ?_) #[true, true, true, true, true, true, true, true, true, true, true] rfl rfl (by kernel_rfl) (fun _ _ _ h => h) (Or.inl ⟨by rfl, ?_⟩) ?_ ?_
  rotate_left
  · intro w'
    go_simp
    with_reducible rfl
  rotate_left
  · simp only [Act.put, List.setIfInBounds_toArray, List.set_cons_zero, List.set_cons_succ, i64_w, i32_w]
    rfl
  refine done_ (by kernel_rfl) ?_
  go_wp2_with fail
  obtain ⟨hend, hblk⟩ := step_end (os := os) HS9.out HB9.out HLT9.out (by simp) HZ8.out
  refine bodyPost_ret (results_ct rfl _ _ b8 45 _ (0, 0) _ rfl hblk Try.underlying45 rfl (by kernel_rfl)) rfl ?_
  exact hend
end Go.Proofs.Ytohopfbacfddbaa.S
