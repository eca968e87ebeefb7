/- One step at both machines: what they list. Conditions: each theorem's own. -/
import Derived.Test.YtohopfbacfddbaaSK
namespace Go.Proofs.Ytohopfbacfddbaa.S
open Go.RowKit Go.Proofs.YtohopfbacfddbaaW.PrintWords Go.Proofs.YtohopfbacfddbaaW.PrintLast Go.Proofs.Ytohopfbacfddbaa.H
open Go.Proofs.Ytohopfbacfddbaa.N hiding gb_setCell gb_drewN gb_drew gb_refl gb_any gb_of_below below_of_gb below_gb own_open ne_of_ge cut_at
set_option linter.unusedVariables false
set_option linter.unusedSimpArgs false
/-- A list of the call's own, as Rd reads it. -/
theorem ownList_open {w w' : World} {xs : List Int} {e : Ending} (h : OwnList w xs e w') : ∃ A c, e = .returned (.slice A xs.length c) ∧ w'.ownsRow w.heap.size 3 (Ei .i64).sz (.slice A xs.length c) xs.length (flat (Ei .i64) xs) ∧ w.grownBy w' none := by
  obtain ⟨v, rfl, ho, hg⟩ := h
  rw [← flat_nums] at ho
  obtain ⟨A, c, rfl, -, -, -⟩ := own_open (E := Ei .i64) rfl ho
  exact ⟨A, c, rfl, ho, hg⟩
set_option maxHeartbeats 8000000 in
set_option maxRecDepth 100000 in
theorem step_list (w : World) (P h : Nat) (f : Nat → Int) (c d : Int) (p o : Pr) (OA : Option Addr) (oc : Nat) (WA : Option Addr) (wc : Nat) (os ws : List Sl) (hs : St w P f c d p o h OA oc WA wc os ws) (sec : Bool) (N : Int) (LA : Option Addr) (ln lc : Nat) (hn : os.length ≤ 999) :
    Calls Try.prog 16 #[p.val, o.val, .pointer (some ⟨h, 0, none⟩), .agg #[.bool sec, .int .i64 4, .int .i64 N, .slice LA ln lc]] w (StepI w P f c d o h os) := by
  obtain ⟨f1, hf1⟩ : ∃ f1 : Nat → Int, f1 = fun i => if i < w.heap.size then f i else -100 := ⟨_, rfl⟩
  obtain ⟨hbx, hg⟩ := step_boxes w f p o sec 4 N LA ln lc
  rw [← hf1] at hbx
  have HL0 := Aside0.mk (show Lt w f ((((w.alloc (.cells #[.pointer (some ⟨p.g, 0, none⟩), .pointer (some ⟨p.r, 0, none⟩)] 45)).alloc (.cells #[.pointer (some ⟨o.g, 0, none⟩), .pointer (some ⟨o.r, 0, none⟩)] 45)).alloc (.cells #[.bool sec, .int .i64 4, .int .i64 N, .slice LA ln lc] 47)).alloc (.cells #[.pointer none, .pointer none] 45)) f1 (fun _ => False) from ⟨Tn.gb0 hg _, fun i hi => by rw [hf1]; exact if_pos hi⟩)
  have HS0 := Aside0.mk (hs.lt HL0.out (fun _ h => h.elim))
  have HBX := Aside0.mk hbx
  have HZ4 : Aside0 (w.heap.size ≤ w.heap.size) := ⟨Nat.le_refl _⟩
  have HZ8 : Aside0 (w.heap.size ≤ w.heap.size + 1 + 1 + 1) := ⟨by omega⟩
  clear hs hbx hg hf1
  unfold Pr.val
  go_enter Try.func16, Try.ntmps16
  go_upto_region 1 with (fail)
  generalize ((((w.alloc (.cells #[.pointer (some ⟨p.g, 0, none⟩), .pointer (some ⟨p.r, 0, none⟩)] 45)).alloc (.cells #[.pointer (some ⟨o.g, 0, none⟩), .pointer (some ⟨o.r, 0, none⟩)] 45)).alloc (.cells #[.bool sec, .int .i64 4, .int .i64 N, .slice LA ln lc] 47)).alloc (.cells #[.pointer none, .pointer none] 45)) = W at HBX HL0 HS0 ⊢
  generalize hb8 : w.heap.size + 1 + 1 + 1 = b8 at HBX HZ8 ⊢
  generalize hb7 : w.heap.size + 1 + 1 = b7 at HBX ⊢
  generalize hb5 : w.heap.size + 1 = b5 at HBX ⊢
  obtain ⟨b4, hb4⟩ : ∃ b4, b4 = w.heap.size := ⟨_, rfl⟩
  rw [← hb4] at HBX ⊢
  rw [← hb4] at HZ4
  have HZ4 : Aside0 (w.heap.size ≤ b4) := ⟨by omega⟩
  clear hb8 hb7 hb5 hb4
  have cp0 := cell_of (j := 0) (v := .pointer (some ⟨p.g, 0, none⟩)) HBX.out.h4 rfl
  have cp1 := cell_of (j := 1) (v := .pointer (some ⟨p.r, 0, none⟩)) HBX.out.h4 rfl
  have co0 := cell_of (j := 0) (v := .pointer (some ⟨o.g, 0, none⟩)) HBX.out.h5 rfl
  have co1 := cell_of (j := 1) (v := .pointer (some ⟨o.r, 0, none⟩)) HBX.out.h5 rfl
  have cx1 := cell_of (j := 1) (v := .int .i64 4) HBX.out.h7 rfl
  have cx2 := cell_of (j := 2) (v := .int .i64 N) HBX.out.h7 rfl
  have cx3 := cell_of (j := 3) (v := .slice LA ln lc) HBX.out.h7 rfl
  have cr0 := cell_of (j := 0) (v := .pointer none) HBX.out.h8 rfl
  have cr1 := cell_of (j := 1) (v := .pointer none) HBX.out.h8 rfl
  have fr0 := frozen_of (j := 0) HBX.out.h8
  have fr1 := frozen_of (j := 1) HBX.out.h8
  obtain ⟨xs, hxs⟩ : ∃ xs, xs = freeTo p.n p.t p.n := ⟨_, rfl⟩
  have HXS := Aside0.mk hxs
  have HXL := Aside0.mk (show xs.length ≤ 256 by
    have h1 := freeTo_len p.n p.t p.n
    have h2 := HS0.out.p.s.le
    rw [hxs]; omega)
  have HCD := Aside0.mk HS0.out.cd
  obtain ⟨L, hL⟩ : ∃ L, L = xs.length := ⟨_, rfl⟩
  have HLL := Aside0.mk hL
  clear hxs hL
  go_wp2_with fail
  refine (List_calls W p.g p.n p.t HS0.out.p.s).mono ?_
  intro e W1 hol
  obtain ⟨aA, ac, rfl, ho, hg1⟩ := ownList_open hol
  rw [← HXS.out] at ho ⊢
  rw [← HLL.out] at ho ⊢
  obtain ⟨f2, hl1, hf2⟩ := Lt.new (f := f1) (T := fun _ => False) (Tn.gb0 hg1 _) (3 + 2 * (os.length : Int))
  have HS1 := Aside0.mk (HS0.out.lt hl1 (fun _ h => h.elim))
  have HB1 := Aside0.mk (HBX.out.lt hl1 (fun h => h))
  have HL1 := Aside0.mk ((HL0.out.trans hl1).mono (U := TT c) (fun _ h => h.elim))
  have HO1 := Aside0.mk (show SlOwn W1 P ⟨aA, L, ac, xs⟩ from own_mono ho HS0.out.size)
  have HFA := Aside0.mk (show ∀ k, blkOf aA k → f2 k = 3 + 2 * (os.length : Int) ∧ k < W1.heap.size from fun k hk => by
    have := ho.lt k (blk_own.2 hk)
    exact ⟨hf2 k this.1, this.2⟩)
  clear cp0 cp1 co0 co1 cx1 cx2 cx3 cr0 cr1 fr0 fr1
  clear ho hg1 hl1 hf2 hol
  have cp0 := cell_of (j := 0) (v := .pointer (some ⟨p.g, 0, none⟩)) HB1.out.h4 rfl
  have cp1 := cell_of (j := 1) (v := .pointer (some ⟨p.r, 0, none⟩)) HB1.out.h4 rfl
  have co0 := cell_of (j := 0) (v := .pointer (some ⟨o.g, 0, none⟩)) HB1.out.h5 rfl
  have co1 := cell_of (j := 1) (v := .pointer (some ⟨o.r, 0, none⟩)) HB1.out.h5 rfl
  have cx1 := cell_of (j := 1) (v := .int .i64 4) HB1.out.h7 rfl
  have cx2 := cell_of (j := 2) (v := .int .i64 N) HB1.out.h7 rfl
  have cx3 := cell_of (j := 3) (v := .slice LA ln lc) HB1.out.h7 rfl
  have cr0 := cell_of (j := 0) (v := .pointer none) HB1.out.h8 rfl
  have cr1 := cell_of (j := 1) (v := .pointer none) HB1.out.h8 rfl
  have fr0 := frozen_of (j := 0) HB1.out.h8
  have fr1 := frozen_of (j := 1) HB1.out.h8
  go_wp2_with fail
  refine (List_calls W1 p.g p.n p.t HS1.out.p.s).mono ?_
  intro e W2 hol
  obtain ⟨bA, bc, rfl, ho, hg2⟩ := ownList_open hol
  rw [← HXS.out] at ho ⊢
  rw [← HLL.out] at ho ⊢
  obtain ⟨f3, hl2, hf3⟩ := Lt.new (f := f2) (T := fun _ => False) (Tn.gb0 hg2 _) (3 + 2 * ((os.length + 1 : Nat) : Int))
  have HS2 := Aside0.mk (HS1.out.lt hl2 (fun _ h => h.elim))
  have HB2 := Aside0.mk (HB1.out.lt hl2 (fun h => h))
  have HL2 := Aside0.mk (HL1.out.trans (hl2.mono (U := TT c) (fun _ h => h.elim)))
  have HO2 := Aside0.mk (HO1.out.tn hl2.tn (fun _ _ h => h))
  have HFA2 := Aside0.mk (show ∀ k, blkOf aA k → f3 k = 3 + 2 * (os.length : Int) from fun k hk => by rw [hl2.lab k (HFA.out k hk).2]; exact (HFA.out k hk).1)
  have HP2 := Aside0.mk (show SlOwn W2 P ⟨bA, L, bc, xs⟩ from own_mono ho HS1.out.size)
  have HFB2 := Aside0.mk (show ∀ k, blkOf bA k → f3 k = 3 + 2 * ((os.length + 1 : Nat) : Int) ∧ k < W2.heap.size from fun k hk => by
    have := ho.lt k (blk_own.2 hk)
    exact ⟨hf3 k this.1, this.2⟩)
  clear cp0 cp1 co0 co1 cx1 cx2 cx3 cr0 cr1 fr0 fr1
  clear ho hg2 hl2 hf3 hol
  have cp0 := cell_of (j := 0) (v := .pointer (some ⟨p.g, 0, none⟩)) HB2.out.h4 rfl
  have cp1 := cell_of (j := 1) (v := .pointer (some ⟨p.r, 0, none⟩)) HB2.out.h4 rfl
  have co0 := cell_of (j := 0) (v := .pointer (some ⟨o.g, 0, none⟩)) HB2.out.h5 rfl
  have co1 := cell_of (j := 1) (v := .pointer (some ⟨o.r, 0, none⟩)) HB2.out.h5 rfl
  have cx1 := cell_of (j := 1) (v := .int .i64 4) HB2.out.h7 rfl
  have cx2 := cell_of (j := 2) (v := .int .i64 N) HB2.out.h7 rfl
  have cx3 := cell_of (j := 3) (v := .slice LA ln lc) HB2.out.h7 rfl
  have cr0 := cell_of (j := 0) (v := .pointer none) HB2.out.h8 rfl
  have cr1 := cell_of (j := 1) (v := .pointer none) HB2.out.h8 rfl
  have fr0 := frozen_of (j := 0) HB2.out.h8
  have fr1 := frozen_of (j := 1) HB2.out.h8
  go_wp2_with fail
  refine (keep_calls W2 P h OA oc WA wc os ws f3 ⟨aA, L, ac, xs⟩ HS2.out.k HO2.out HFA2.out (by omega) (by have := HXL.out; have := HLL.out; show L ≤ 1000; omega)).mono ?_
  rintro e W3 ⟨rfl, OA3, oc3, WA3, wc3, m3, f4, hm3, hk3, hl3⟩
  have HS3 := Aside0.mk (HS2.out.keep hk3 hl3 (by have := HXL.out; have := HLL.out; show L ≤ 256; omega))
  have HB3 := Aside0.mk (HB2.out.lt hl3 k012_100)
  have HL3 := Aside0.mk (HL2.out.trans (hl3.mono k012_tt))
  have HP3 := Aside0.mk (HP2.out.tn hl3.tn (fun k hk e => by rw [(HFB2.out k hk).1] at e; rcases e with e | e | e <;> omega))
  have HFB3 := Aside0.mk (show ∀ k, blkOf bA k → f4 k = 3 + 2 * (((os ++ [(⟨aA, L, ac, xs⟩ : Sl)]).length : Nat) : Int) from fun k hk => by rw [hl3.lab k (HFB2.out k hk).2, (HFB2.out k hk).1, List.length_append]; rfl)
  have HN3 := Aside0.mk (show (os ++ [(⟨aA, L, ac, xs⟩ : Sl)]).length ≤ 1000 by rw [List.length_append]; show os.length + 1 ≤ 1000; omega)
  clear cp0 cp1 co0 co1 cx1 cx2 cx3 cr0 cr1 fr0 fr1
  clear hm3 hk3 hl3
  have cp0 := cell_of (j := 0) (v := .pointer (some ⟨p.g, 0, none⟩)) HB3.out.h4 rfl
  have cp1 := cell_of (j := 1) (v := .pointer (some ⟨p.r, 0, none⟩)) HB3.out.h4 rfl
  have co0 := cell_of (j := 0) (v := .pointer (some ⟨o.g, 0, none⟩)) HB3.out.h5 rfl
  have co1 := cell_of (j := 1) (v := .pointer (some ⟨o.r, 0, none⟩)) HB3.out.h5 rfl
  have cx1 := cell_of (j := 1) (v := .int .i64 4) HB3.out.h7 rfl
  have cx2 := cell_of (j := 2) (v := .int .i64 N) HB3.out.h7 rfl
  have cx3 := cell_of (j := 3) (v := .slice LA ln lc) HB3.out.h7 rfl
  have cr0 := cell_of (j := 0) (v := .pointer none) HB3.out.h8 rfl
  have cr1 := cell_of (j := 1) (v := .pointer none) HB3.out.h8 rfl
  have fr0 := frozen_of (j := 0) HB3.out.h8
  have fr1 := frozen_of (j := 1) HB3.out.h8
  go_wp2_with fail
  refine (keep_calls W3 P h OA3 oc3 WA3 wc3 _ _ f4 ⟨bA, L, bc, xs⟩ HS3.out.k HP3.out HFB3.out HN3.out (by have := HXL.out; have := HLL.out; show L ≤ 1000; omega)).mono ?_
  rintro e W4 ⟨rfl, OA4, oc4, WA4, wc4, m4, f6, hm4, hk4, hl4⟩
  have HS4 := Aside0.mk (HS3.out.keep hk4 hl4 (by have := HXL.out; have := HLL.out; show L ≤ 256; omega))
  have HB4 := Aside0.mk (HB3.out.lt hl4 k012_100)
  have HL4 := Aside0.mk (HL3.out.trans (hl4.mono k012_tt))
  have HRa4 := Aside0.mk (show Rd (Ei .i64) W4 aA L xs from (hk4.so ⟨aA, L, ac, xs⟩ (by simp)).rd)
  have HRb4 := Aside0.mk (show Rd (Ei .i64) W4 bA L xs from (hk4.so ⟨bA, L, bc, xs⟩ (by simp)).rd)
  clear cp0 cp1 co0 co1 cx1 cx2 cx3 cr0 cr1 fr0 fr1
  clear hm4 hk4 hl4
  have cp0 := cell_of (j := 0) (v := .pointer (some ⟨p.g, 0, none⟩)) HB4.out.h4 rfl
  have cp1 := cell_of (j := 1) (v := .pointer (some ⟨p.r, 0, none⟩)) HB4.out.h4 rfl
  have co0 := cell_of (j := 0) (v := .pointer (some ⟨o.g, 0, none⟩)) HB4.out.h5 rfl
  have co1 := cell_of (j := 1) (v := .pointer (some ⟨o.r, 0, none⟩)) HB4.out.h5 rfl
  have cx1 := cell_of (j := 1) (v := .int .i64 4) HB4.out.h7 rfl
  have cx2 := cell_of (j := 2) (v := .int .i64 N) HB4.out.h7 rfl
  have cx3 := cell_of (j := 3) (v := .slice LA ln lc) HB4.out.h7 rfl
  have cr0 := cell_of (j := 0) (v := .pointer none) HB4.out.h8 rfl
  have cr1 := cell_of (j := 1) (v := .pointer none) HB4.out.h8 rfl
  have fr0 := frozen_of (j := 0) HB4.out.h8
  have fr1 := frozen_of (j := 1) HB4.out.h8
  go_wp2_with fail
  refine (rList_calls W4 P p.r p.ab p.n p.c p.t HS4.out.p.d).mono ?_
  intro e W6 hol
  obtain ⟨vA, vc, rfl, ho, hg6⟩ := ownList_open hol
  rw [← HXS.out] at ho ⊢
  rw [← HLL.out] at ho ⊢
  have hl6 : Lt W4 f6 W6.drew f6 (fun _ => False) := Lt.gb (World.grownBy.trans hg6 (gb_drew W6 none))
  have HS7 := Aside0.mk (HS4.out.lt hl6 (fun _ h => h.elim))
  have HB7 := Aside0.mk (HB4.out.lt hl6 (fun h => h))
  have HT7 := Aside0.mk (HL4.out.trans (hl6.mono (U := TT c) (fun _ h => h.elim)))
  have HRa7 := Aside0.mk (HRa4.out.tn hl6.tn (fun _ _ _ h => h))
  have HRb7 := Aside0.mk (HRb4.out.tn hl6.tn (fun _ _ _ h => h))
  have HRv7 := Aside0.mk (show Rd (Ei .i64) W6.drew vA L xs from (own_rd HLL.out.symm ho).gb (gb_drew W6 none))
  have HB6 := Aside0.mk (HB4.out.lt (show Lt W4 f6 W6 f6 (fun _ => False) from Lt.gb hg6) (fun h => h))
  have HNE := Aside0.mk (show (freeTo p.n p.t p.n).length = L by rw [HLL.out, HXS.out])
  have hdd : decide (xs = xs) = true := decide_eq_true rfl
  clear cp0 cp1 co0 co1 cx1 cx2 cx3 cr0 cr1 fr0 fr1
  clear ho hg6 hl6 hol
  have cp0 := cell_of (j := 0) (v := .pointer (some ⟨p.g, 0, none⟩)) HB6.out.h4 rfl
  have cp1 := cell_of (j := 1) (v := .pointer (some ⟨p.r, 0, none⟩)) HB6.out.h4 rfl
  have co0 := cell_of (j := 0) (v := .pointer (some ⟨o.g, 0, none⟩)) HB6.out.h5 rfl
  have co1 := cell_of (j := 1) (v := .pointer (some ⟨o.r, 0, none⟩)) HB6.out.h5 rfl
  have cx1 := cell_of (j := 1) (v := .int .i64 4) HB6.out.h7 rfl
  have cx2 := cell_of (j := 2) (v := .int .i64 N) HB6.out.h7 rfl
  have cx3 := cell_of (j := 3) (v := .slice LA ln lc) HB6.out.h7 rfl
  have cr0 := cell_of (j := 0) (v := .pointer none) HB6.out.h8 rfl
  have cr1 := cell_of (j := 1) (v := .pointer none) HB6.out.h8 rfl
  have fr0 := frozen_of (j := 0) HB6.out.h8
  have fr1 := frozen_of (j := 1) HB6.out.h8
  go_wp2_with fail
  refine start_ (n := 20) (S := fun w' => w'.cell? ⟨b4, 0, none⟩ = some (.pointer (some ⟨p.g, 0, none⟩)) ∧ w'.cell? ⟨b4, 1, none⟩ = some (.pointer (some ⟨p.r, 0, none⟩))) (ds := [18]) #[false, false, false, false, false, false, false, false, false, false, false, false, false, false, false, false, false, false, false, false] (by kernel_rfl) rfl rfl ⟨cell_of (j := 0) HB7.out.h4 rfl, cell_of (j := 1) HB7.out.h4 rfl⟩ (fun hHeld => ?_)
  refine pure_ (i := 1) (N := some 128) (v := ?_) (a' := ?_) #[false, true, false, false, false, false, false, false, false, false, false, false, false, false, false, false, false, false, false, false] rfl rfl (by kernel_rfl) (fun _ _ _ h => h) (Or.inl ⟨by rfl, ?_⟩) ?_ ?_
  rotate_left
  · intro w'
    go_simp
    with_reducible rfl
  rotate_left
  · simp only [Act.put, List.setIfInBounds_toArray, List.set_cons_zero, List.set_cons_succ, i64_w, i32_w]
    rfl
  refine pure_ (i := 2) (N := some 129) (v := ?_) (a' := ?_) #[false, true, true, false, false, false, false, false, false, false, false, false, false, false, false, false, false, false, false, false] rfl rfl (by kernel_rfl) (fun _ _ _ h => h) (Or.inl ⟨by rfl, ?_⟩) ?_ ?_
  rotate_left
  · intro w'
    go_simp
    with_reducible rfl
  rotate_left
  · simp only [Act.put, List.setIfInBounds_toArray, List.set_cons_zero, List.set_cons_succ, i64_w, i32_w]
    rfl
  refine take_ (i := 0) (N := some 127) (v := ?_) (a' := ?_) #[true, true, true, false, false, false, false, false, false, false, false, false, false, false, false, false, false, false, false, false] rfl rfl (by kernel_rfl) (fun _ _ _ h => h) (Or.inl ⟨by rfl, ?_⟩) hHeld ?_ ?_
  rotate_left
  · rintro w' ⟨s0, s1⟩
    go_simp
    with_reducible rfl
  rotate_left
  · simp only [Act.put, List.setIfInBounds_toArray, List.set_cons_zero, List.set_cons_succ, i64_w, i32_w]
    rfl
  refine one_ (i := 3) (N := some 130) #[true, true, true, true, false, false, false, false, false, false, false, false, false, false, false, false, false, false, false, false] rfl rfl (by kernel_rfl) (by decide) (fun K hK => ?_)
  refine goes_ Try.func11 (by kernel_rfl) rfl #[.slice aA L ac, .slice vA L vc] (by rfl) rfl rfl (by simp only [List.map_toArray, List.map_cons, List.map_nil]; try rfl) ?_
  with_reducible refine ((sameInts_calls _ aA vA L L ac vc xs xs (ints_rd HRa7.out) (ints_rd HRv7.out))).mono ?_
  rintro e w8 ⟨rfl, hg⟩
  refine ⟨_, rfl, ?_⟩
  have HL8 := Aside0.mk (show Lt W6.drew f6 w8 f6 (fun _ => False) from Lt.gb hg); have HS8 := Aside0.mk (HS7.out.lt HL8.out (fun _ h => h.elim)); have HB8 := Aside0.mk (HB7.out.lt HL8.out (fun h => h)); have HT8 := Aside0.mk (HT7.out.trans (HL8.out.mono (U := TT c) (fun _ h => h.elim))); have HRa8 := Aside0.mk (HRa7.out.gb hg); have HRb8 := Aside0.mk (HRb7.out.gb hg); have HRv8 := Aside0.mk (HRv7.out.gb hg); clear hg HL8 HS7 HB7 HT7 HRa7 HRb7 HRv7
  refine hK.out _ _ ⟨cell_of (j := 0) HB8.out.h4 rfl, cell_of (j := 1) HB8.out.h4 rfl⟩ (fun hHeld => ?_)
  clear hK K
  refine norm_ (a' := ?_) ?_ ?_
  rotate_left
  · show Act.put _ (some 130) _ = _
    simp only [Act.put, List.setIfInBounds_toArray, List.set_cons_zero, List.set_cons_succ, i64_w, i32_w]
    rfl
  refine pure_ (i := 4) (N := some 131) (v := ?_) (a' := ?_) #[true, true, true, true, true, false, false, false, false, false, false, false, false, false, false, false, false, false, false, false] rfl rfl (by kernel_rfl) (fun _ _ _ h => h) (Or.inl ⟨by rfl, ?_⟩) ?_ ?_
  rotate_left
  · intro w'
    go_simp
    with_reducible rfl
  rotate_left
  · simp only [Act.put, List.setIfInBounds_toArray, List.set_cons_zero, List.set_cons_succ, i64_w, i32_w]
    rfl
  refine pure_ (i := 5) (N := some 132) (v := ?_) (a' := ?_) #[true, true, true, true, true, true, false, false, false, false, false, false, false, false, false, false, false, false, false, false] rfl rfl (by kernel_rfl) (fun _ _ _ h => h) (Or.inl ⟨by rfl, ?_⟩) ?_ ?_
  rotate_left
  · intro w'
    go_simp
    with_reducible rfl
  rotate_left
  · simp only [Act.put, List.setIfInBounds_toArray, List.set_cons_zero, List.set_cons_succ, i64_w, i32_w]
    rfl
  refine pure_ (i := 6) (N := some 133) (v := ?_) (a' := ?_) #[true, true, true, true, true, true, true, false, false, false, false, false, false, false, false, false, false, false, false, false] rfl rfl (by kernel_rfl) (fun _ _ _ h => h) (Or.inl ⟨by rfl, ?_⟩) ?_ ?_
  rotate_left
  · intro w'
    go_simp
    with_reducible rfl
  rotate_left
  · simp only [Act.put, List.setIfInBounds_toArray, List.set_cons_zero, List.set_cons_succ, i64_w, i32_w]
    rfl
  refine one_ (i := 7) (N := some 134) #[true, true, true, true, true, true, true, true, false, false, false, false, false, false, false, false, false, false, false, false] rfl rfl (by kernel_rfl) (by decide) (fun K hK => ?_)
  refine goes_ Try.func11 (by kernel_rfl) rfl #[.slice bA L bc, .slice vA L vc] (by rfl) rfl rfl (by simp only [List.map_toArray, List.map_cons, List.map_nil]; try rfl) ?_
  with_reducible refine ((sameInts_calls _ bA vA L L bc vc xs xs (ints_rd HRb8.out) (ints_rd HRv8.out))).mono ?_
  rintro e w9 ⟨rfl, hg⟩
  refine ⟨_, rfl, ?_⟩
  have HL9 := Aside0.mk (show Lt w8 f6 w9 f6 (fun _ => False) from Lt.gb hg); have HS9 := Aside0.mk (HS8.out.lt HL9.out (fun _ h => h.elim)); have HB9 := Aside0.mk (HB8.out.lt HL9.out (fun h => h)); have HT9 := Aside0.mk (HT8.out.trans (HL9.out.mono (U := TT c) (fun _ h => h.elim))); have HRa9 := Aside0.mk (HRa8.out.gb hg); have HRb9 := Aside0.mk (HRb8.out.gb hg); have HRv9 := Aside0.mk (HRv8.out.gb hg); clear hg HL9 HS8 HB8 HT8 HRa8 HRb8 HRv8
  refine hK.out _ _ ⟨cell_of (j := 0) HB9.out.h4 rfl, cell_of (j := 1) HB9.out.h4 rfl⟩ (fun hHeld => ?_)
  clear hK K
  refine norm_ (a' := ?_) ?_ ?_
  rotate_left
  · show Act.put _ (some 134) _ = _
    simp only [Act.put, List.setIfInBounds_toArray, List.set_cons_zero, List.set_cons_succ, i64_w, i32_w]
    rfl
  refine pure_ (i := 8) (N := some 135) (v := ?_) (a' := ?_) #[true, true, true, true, true, true, true, true, true, false, false, false, false, false, false, false, false, false, false, false] rfl rfl (by kernel_rfl) (fun _ _ _ h => h) (Or.inl ⟨by rfl, ?_⟩) ?_ ?_
  rotate_left
  · intro w'
    go_simp
    with_reducible rfl
  rotate_left
  · simp only [Act.put, List.setIfInBounds_toArray, List.set_cons_zero, List.set_cons_succ, i64_w, i32_w]
    rfl
  refine pure_ (i := 9) (N := some 136) (v := ?_) (a' := ?_) #[true, true, true, true, true, true, true, true, true, true, false, false, false, false, false, false, false, false, false, false] rfl rfl (by kernel_rfl) (fun _ _ _ h => h) (Or.inl ⟨by rfl, ?_⟩) ?_ ?_
  rotate_left
  · intro w'
    go_simp
    with_reducible rfl
  rotate_left
  · simp only [Act.put, List.setIfInBounds_toArray, List.set_cons_zero, List.set_cons_succ, i64_w, i32_w]
    rfl
  refine pure_ (i := 10) (N := some 137) (v := ?_) (a' := ?_) #[true, true, true, true, true, true, true, true, true, true, true, false, false, false, false, false, false, false, false, false] rfl rfl (by kernel_rfl) (fun _ _ _ h => h) (Or.inl ⟨by rfl, ?_⟩) ?_ ?_
  rotate_left
  · intro w'
    go_simp
    with_reducible rfl
  rotate_left
  · simp only [Act.put, List.setIfInBounds_toArray, List.set_cons_zero, List.set_cons_succ, i64_w, i32_w]
    rfl
  refine pure_ (i := 13) (N := some 140) (v := ?_) (a' := ?_) #[true, true, true, true, true, true, true, true, true, true, true, false, false, true, false, false, false, false, false, false] rfl rfl (by kernel_rfl) (fun _ _ _ h => h) (Or.inl ⟨by rfl, ?_⟩) ?_ ?_
  rotate_left
  · intro w'
    go_simp
    with_reducible rfl
  rotate_left
  · simp only [Act.put, List.setIfInBounds_toArray, List.set_cons_zero, List.set_cons_succ, i64_w, i32_w]
    rfl
  refine take_ (i := 11) (N := some 138) (v := ?_) (a' := ?_) #[true, true, true, true, true, true, true, true, true, true, true, true, false, true, false, false, false, false, false, false] rfl rfl (by kernel_rfl) (fun _ _ _ h => h) (Or.inl ⟨by rfl, ?_⟩) hHeld ?_ ?_
  rotate_left
  · rintro w' ⟨s0, s1⟩
    go_simp
    with_reducible rfl
  rotate_left
  · simp only [Act.put, List.setIfInBounds_toArray, List.set_cons_zero, List.set_cons_succ, i64_w, i32_w]
    rfl
  refine take_ (i := 14) (N := some 141) (v := ?_) (a' := ?_) #[true, true, true, true, true, true, true, true, true, true, true, true, false, true, true, false, false, false, false, false] rfl rfl (by kernel_rfl) (fun _ _ _ h => h) (Or.inl ⟨by rfl, ?_⟩) hHeld ?_ ?_
  rotate_left
  · rintro w' ⟨s0, s1⟩
    go_simp
    with_reducible rfl
  rotate_left
  · simp only [Act.put, List.setIfInBounds_toArray, List.set_cons_zero, List.set_cons_succ, i64_w, i32_w]
    rfl
  refine one_ (i := 12) (N := some 139) #[true, true, true, true, true, true, true, true, true, true, true, true, true, true, true, false, false, false, false, false] rfl rfl (by kernel_rfl) (by decide) (fun K hK => ?_)
  refine goes_ Try.func12 (by kernel_rfl) rfl #[.pointer (some ⟨p.g, 0, none⟩)] (by rfl) rfl rfl (by simp only [List.map_toArray, List.map_cons, List.map_nil]; try rfl) ?_
  with_reducible refine ((Free_calls _ p.g p.n p.t HS9.out.p.s)).mono ?_
  rintro e w10 ⟨rfl, rfl⟩
  refine ⟨_, rfl, ?_⟩
  refine hK.out _ _ ⟨cell_of (j := 0) HB9.out.h4 rfl, cell_of (j := 1) HB9.out.h4 rfl⟩ (fun hHeld => ?_)
  clear hK K
  refine norm_ (a' := ?_) ?_ ?_
  rotate_left
  · show Act.put _ (some 139) _ = _
    simp only [Act.put, List.setIfInBounds_toArray, List.set_cons_zero, List.set_cons_succ, i64_w, i32_w]
    rfl
  refine one_ (i := 15) (N := some 142) #[true, true, true, true, true, true, true, true, true, true, true, true, true, true, true, true, false, false, false, false] rfl rfl (by kernel_rfl) (by decide) (fun K hK => ?_)
  refine goes_ Try.func30 (by kernel_rfl) rfl #[.pointer (some ⟨p.r, 0, none⟩)] (by rfl) rfl rfl (by simp only [List.map_toArray, List.map_cons, List.map_nil]; try rfl) ?_
  with_reducible refine ((rFree_calls _ P p.r p.ab p.n p.c p.t HS9.out.p.d)).mono ?_
  rintro e w11 ⟨rfl, hg⟩
  refine ⟨_, rfl, ?_⟩
  have HL11 := Aside0.mk (show Lt w9 f6 w11 f6 (fun _ => False) from Lt.gb hg); have HS11 := Aside0.mk (HS9.out.lt HL11.out (fun _ h => h.elim)); have HB11 := Aside0.mk (HB9.out.lt HL11.out (fun h => h)); have HT11 := Aside0.mk (HT9.out.trans (HL11.out.mono (U := TT c) (fun _ h => h.elim))); clear hg HL11 HS9 HB9 HT9 HRa9 HRb9 HRv9; have q8a := cell_of (j := 0) (v := .pointer none) HB11.out.h8 rfl; have q8b := cell_of (j := 1) (v := .pointer none) HB11.out.h8 rfl; have q8c := frozen_of (j := 0) HB11.out.h8; have q8d := frozen_of (j := 1) HB11.out.h8
  refine hK.out _ _ ⟨cell_of (j := 0) HB11.out.h4 rfl, cell_of (j := 1) HB11.out.h4 rfl⟩ (fun hHeld => ?_)
  clear hK K
  refine norm_ (a' := ?_) ?_ ?_
  rotate_left
  · show Act.put _ (some 142) _ = _
    simp only [Act.put, List.setIfInBounds_toArray, List.set_cons_zero, List.set_cons_succ, i64_w, i32_w]
    rfl
  refine pure_ (i := 16) (N := some 143) (v := ?_) (a' := ?_) #[true, true, true, true, true, true, true, true, true, true, true, true, true, true, true, true, true, false, false, false] rfl rfl (by kernel_rfl) (fun _ _ _ h => h) (Or.inl ⟨by rfl, ?_⟩) ?_ ?_
  rotate_left
  · intro w'
    go_simp
    with_reducible rfl
  rotate_left
  · simp only [Act.put, List.setIfInBounds_toArray, List.set_cons_zero, List.set_cons_succ, i64_w, i32_w]
    rfl
  refine pure_ (i := 17) (N := some 144) (v := ?_) (a' := ?_) #[true, true, true, true, true, true, true, true, true, true, true, true, true, true, true, true, true, true, false, false] rfl rfl (by kernel_rfl) (fun _ _ _ h => h) (Or.inl ⟨by rfl, ?_⟩) ?_ ?_
  rotate_left
  · intro w'
    go_simp
    with_reducible rfl
  rotate_left
  · simp only [Act.put, List.setIfInBounds_toArray, List.set_cons_zero, List.set_cons_succ, i64_w, i32_w]
    rfl
  refine last_ (i := 18) (N := none) #[true, true, true, true, true, true, true, true, true, true, true, true, true, true, true, true, true, true, true, false] rfl rfl (by kernel_rfl) (by decide) (fun K hK => ?_)
  refine skip_ (w1 := ?_) (by rfl) rfl ?_ ?_
  rotate_left
  · go_simp
    rfl
  refine hK.out _ _ ?_
  clear hK K
  refine pure_ (i := 19) (N := some 9) (v := ?_) (a' := ?_) #[true, true, true, true, true, true, true, true, true, true, true, true, true, true, true, true, true, true, true, true] rfl rfl (by kernel_rfl) (fun _ _ _ h => h) (Or.inl ⟨by rfl, ?_⟩) ?_ ?_
  rotate_left
  · intro w'
    go_simp
    with_reducible rfl
  rotate_left
  · simp only [Act.put, List.setIfInBounds_toArray, List.set_cons_zero, List.set_cons_succ, i64_w, i32_w]
    rfl
  refine done_ (by kernel_rfl) ?_
  go_wp2_with fail
  obtain ⟨hend, hblk⟩ := step_end (os := os) HS11.out HB11.out HT11.out (by simp) HZ8.out
  refine bodyPost_ret (results_ct rfl _ _ b8 45 _ (0, 0) _ rfl hblk Try.underlying45 rfl (by kernel_rfl)) rfl ?_
  exact hend
end Go.Proofs.Ytohopfbacfddbaa.S
