/- One step at both machines: claiming and giving. Conditions: each theorem's own. -/
import Derived.Test.YtohopfbacfddbaaSK
namespace Go.Proofs.Ytohopfbacfddbaa.S
open Go.RowKit Go.Proofs.YtohopfbacfddbaaW.PrintWords Go.Proofs.YtohopfbacfddbaaW.PrintLast Go.Proofs.Ytohopfbacfddbaa.H
open Go.Proofs.Ytohopfbacfddbaa.N hiding gb_setCell gb_drewN gb_drew gb_refl gb_any gb_of_below below_of_gb below_gb own_open ne_of_ge cut_at
set_option linter.unusedVariables false
set_option linter.unusedSimpArgs false
set_option maxHeartbeats 8000000 in
set_option maxRecDepth 100000 in
theorem step_claim (w : World) (P h : Nat) (f : Nat → Int) (c d : Int) (p o : Pr) (OA : Option Addr) (oc : Nat) (WA : Option Addr) (wc : Nat) (os ws : List Sl) (hs : St w P f c d p o h OA oc WA wc os ws) (sec : Bool) (N : Int) (LA : Option Addr) (ln lc : Nat) (xs : List Int) (hr : Rd (Ei .i64) w LA ln xs) (hlb : ∀ ad, LA = some ad → 0 < ln → ad.block < P) (hz : ln * 8 ≤ 140737488351232) :
    Calls Try.prog 16 #[p.val, o.val, .pointer (some ⟨h, 0, none⟩), .agg #[.bool sec, .int .i64 1, .int .i64 N, .slice LA ln lc]] w (StepI w P f c d o h os) := by
  obtain rfl : xs.length = ln := hr.1
  have HR := Aside0.mk hr
  have HLB := Aside0.mk hlb
  clear hr hlb
  obtain ⟨f1, hf1⟩ : ∃ f1 : Nat → Int, f1 = fun i => if i < w.heap.size then f i else -100 := ⟨_, rfl⟩
  obtain ⟨hbx, hg⟩ := step_boxes w f p o sec 1 N LA xs.length lc
  rw [← hf1] at hbx
  have HL0 := Aside0.mk (show Lt w f ((((w.alloc (.cells #[.pointer (some ⟨p.g, 0, none⟩), .pointer (some ⟨p.r, 0, none⟩)] 45)).alloc (.cells #[.pointer (some ⟨o.g, 0, none⟩), .pointer (some ⟨o.r, 0, none⟩)] 45)).alloc (.cells #[.bool sec, .int .i64 1, .int .i64 N, .slice LA xs.length lc] 47)).alloc (.cells #[.pointer none, .pointer none] 45)) f1 (fun _ => False) from ⟨Tn.gb0 hg _, fun i hi => by rw [hf1]; exact if_pos hi⟩)
  have HS0 := Aside0.mk (hs.lt HL0.out (fun _ h => h.elim))
  have HBX := Aside0.mk hbx
  have HZ4 : Aside0 (w.heap.size ≤ w.heap.size) := ⟨Nat.le_refl _⟩
  have HZ8 : Aside0 (w.heap.size ≤ w.heap.size + 1 + 1 + 1) := ⟨by omega⟩
  clear hs hbx hg hf1
  unfold Pr.val
  go_enter Try.func16, Try.ntmps16
  go_upto_region 1 with (fail)
  generalize ((((w.alloc (.cells #[.pointer (some ⟨p.g, 0, none⟩), .pointer (some ⟨p.r, 0, none⟩)] 45)).alloc (.cells #[.pointer (some ⟨o.g, 0, none⟩), .pointer (some ⟨o.r, 0, none⟩)] 45)).alloc (.cells #[.bool sec, .int .i64 1, .int .i64 N, .slice LA xs.length lc] 47)).alloc (.cells #[.pointer none, .pointer none] 45)) = W at HBX HL0 HS0 ⊢
  generalize hb8 : w.heap.size + 1 + 1 + 1 = b8 at HBX HZ8 ⊢
  generalize hb7 : w.heap.size + 1 + 1 = b7 at HBX ⊢
  generalize hb5 : w.heap.size + 1 = b5 at HBX ⊢
  obtain ⟨b4, hb4⟩ : ∃ b4, b4 = w.heap.size := ⟨_, rfl⟩
  rw [← hb4] at HBX ⊢
  rw [← hb4] at HZ4
  have HZ4 : Aside0 (w.heap.size ≤ b4) := ⟨by omega⟩
  clear hb8 hb7 hb5 hb4
  have cp0 := cell_of (j := 0) (v := .pointer (some ⟨p.g, 0, none⟩)) HBX.out.h4 rfl
  have cp1 := cell_of (j := 1) (v := .pointer (some ⟨p.r, 0, none⟩)) HBX.out.h4 rfl
  have co0 := cell_of (j := 0) (v := .pointer (some ⟨o.g, 0, none⟩)) HBX.out.h5 rfl
  have co1 := cell_of (j := 1) (v := .pointer (some ⟨o.r, 0, none⟩)) HBX.out.h5 rfl
  have cx1 := cell_of (j := 1) (v := .int .i64 1) HBX.out.h7 rfl
  have cx2 := cell_of (j := 2) (v := .int .i64 N) HBX.out.h7 rfl
  have cx3 := cell_of (j := 3) (v := .slice LA xs.length lc) HBX.out.h7 rfl
  have cr0 := cell_of (j := 0) (v := .pointer none) HBX.out.h8 rfl
  have cr1 := cell_of (j := 1) (v := .pointer none) HBX.out.h8 rfl
  have fr0 := frozen_of (j := 0) HBX.out.h8
  have fr1 := frozen_of (j := 1) HBX.out.h8
  have HCD := Aside0.mk HS0.out.cd
  have HLOW := Aside0.mk (fun k hk => HS0.out.low k hk)
  have HR0 := Aside0.mk (HR.out.tn HL0.out.tn (fun _ _ _ h => h))
  go_wp2_with fail
  refine (lent_calls W LA xs.length lc xs HR0.out (by omega)).mono ?_
  rintro e W1 ⟨aA, ac, rfl, ho, hg1⟩
  have hll : (xs ++ [-77, -78]).length = xs.length + 2 := by rw [List.length_append]; rfl
  rw [hll] at ho ⊢
  obtain ⟨lb, rfl⟩ := own_some hll ho (by omega)
  obtain ⟨f2, hl1, hf2⟩ := Lt.new (f := f1) (T := fun _ => False) (Tn.gb0 hg1 _) (-101)
  have HS1 := Aside0.mk (HS0.out.lt hl1 (fun _ h => h.elim))
  have HB1 := Aside0.mk (HBX.out.lt hl1 (fun h => h))
  have HL1 := Aside0.mk ((HL0.out.trans hl1).mono (U := TT c) (fun _ h => h.elim))
  have HO1 := Aside0.mk ho
  have HFL := Aside0.mk (show f2 lb = -101 ∧ lb < W1.heap.size from ⟨hf2 lb (ho.lt lb rfl).1, (ho.lt lb rfl).2⟩)
  have HR1 := Aside0.mk (HR0.out.tn hl1.tn (fun _ _ _ h => h))
  have HLA := Aside0.mk (show ∀ ad, LA = some ad → 0 < xs.length → f2 ad.block = -1000 from fun ad ha hp => HS1.out.low _ (HLB.out ad ha hp))
  have hcap := (own_form ho).1
  have hac : xs.length ≤ ac := by omega
  clear cp0 cp1 co0 co1 cx1 cx2 cx3 cr0 cr1 fr0 fr1
  clear ho hg1 hl1 hf2 hll hcap
  have cp0 := cell_of (j := 0) (v := .pointer (some ⟨p.g, 0, none⟩)) HB1.out.h4 rfl
  have cp1 := cell_of (j := 1) (v := .pointer (some ⟨p.r, 0, none⟩)) HB1.out.h4 rfl
  have co0 := cell_of (j := 0) (v := .pointer (some ⟨o.g, 0, none⟩)) HB1.out.h5 rfl
  have co1 := cell_of (j := 1) (v := .pointer (some ⟨o.r, 0, none⟩)) HB1.out.h5 rfl
  have cx1 := cell_of (j := 1) (v := .int .i64 1) HB1.out.h7 rfl
  have cx2 := cell_of (j := 2) (v := .int .i64 N) HB1.out.h7 rfl
  have cx3 := cell_of (j := 3) (v := .slice LA xs.length lc) HB1.out.h7 rfl
  have cr0 := cell_of (j := 0) (v := .pointer none) HB1.out.h8 rfl
  have cr1 := cell_of (j := 1) (v := .pointer none) HB1.out.h8 rfl
  have fr0 := frozen_of (j := 0) HB1.out.h8
  have fr1 := frozen_of (j := 1) HB1.out.h8
  go_wp2_with fail
  have hrl : ReadsInt W1 .i64 (some ⟨lb, 0, none⟩) xs.length xs := by
    have h1 := (own_rd (show (xs ++ [-77, -78]).length = xs.length + 2 by rw [List.length_append]; rfl) HO1.out).take_ xs.length (by omega)
    rw [List.take_append_of_le_length (Nat.le_refl _), List.take_of_length_le (Nat.le_refl _)] at h1
    exact ints_rd h1
  refine (Claim_calls W1 p.g p.n p.t (some ⟨lb, 0, none⟩) ac xs HS1.out.p.s hrl (fun ad ha e => by cases ha; have e := Option.some.inj e; simp at e; have h1 := HS1.out.p.fg; rw [← e, HFL.out.1] at h1; have := HCD.out; omega)).mono ?_
  rintro e W2 ⟨rfl, hs2, hg2⟩
  have hl2 : Lt W1 f2 W2 f2 (fun x => x = c) := ⟨Tn.of_gb hg2 (fun k hk => by cases hk; exact HS1.out.p.fg), fun _ _ => rfl⟩
  have HRe2 := Aside0.mk (HS1.out.re.lt hl2 (fun x e => by omega))
  have HD2 := Aside0.mk (HS1.out.p.d.tn hl2.tn (by rw [HS1.out.p.fr]; omega) (by rw [HS1.out.p.fa]; omega))
  have HSET2 := Aside0.mk hs2
  have HB2 := Aside0.mk (HB1.out.lt hl2 (fun h => by have := HCD.out; omega))
  have HL2 := Aside0.mk (HL1.out.trans (hl2.mono (U := TT c) (fun x e => .inl e)))
  have HO2 := Aside0.mk (own_tn HO1.out hl2.tn (fun k hk e => by simp [Value.ownBlock] at hk; rw [← hk, HFL.out.1] at e; have := HCD.out; omega))
  have HR2 := Aside0.mk (HR1.out.tn hl2.tn (fun ad ha hp e => by rw [HLA.out ad ha hp] at e; have := HCD.out; omega))
  have HFP := Aside0.mk (show f2 p.g = c ∧ f2 p.r = c - 1 ∧ f2 p.ab = c - 2 from ⟨HS1.out.p.fg, HS1.out.p.fr, HS1.out.p.fa⟩)
  clear hrl hs2 hg2 hl2
  clear cp0 cp1 co0 co1 cx1 cx2 cx3 cr0 cr1 fr0 fr1
  have cp0 := cell_of (j := 0) (v := .pointer (some ⟨p.g, 0, none⟩)) HB2.out.h4 rfl
  have cp1 := cell_of (j := 1) (v := .pointer (some ⟨p.r, 0, none⟩)) HB2.out.h4 rfl
  have co0 := cell_of (j := 0) (v := .pointer (some ⟨o.g, 0, none⟩)) HB2.out.h5 rfl
  have co1 := cell_of (j := 1) (v := .pointer (some ⟨o.r, 0, none⟩)) HB2.out.h5 rfl
  have cx1 := cell_of (j := 1) (v := .int .i64 1) HB2.out.h7 rfl
  have cx2 := cell_of (j := 2) (v := .int .i64 N) HB2.out.h7 rfl
  have cx3 := cell_of (j := 3) (v := .slice LA xs.length lc) HB2.out.h7 rfl
  have cr0 := cell_of (j := 0) (v := .pointer none) HB2.out.h8 rfl
  have cr1 := cell_of (j := 1) (v := .pointer none) HB2.out.h8 rfl
  have fr0 := frozen_of (j := 0) HB2.out.h8
  have fr1 := frozen_of (j := 1) HB2.out.h8
  obtain ⟨mv, hmv⟩ : ∃ mv, mv = mayE p.n p.t true xs := ⟨_, rfl⟩
  have HMV := Aside0.mk hmv
  rw [← hmv]
  clear hmv
  go_wp2_with fail
  refine (rClaim_calls W2 P p.r p.ab p.n p.c p.t LA xs.length lc xs HD2.out HR2.out (fun ad ha hp e => by have h1 := HFP.out.2.2; rw [← e, HLA.out ad ha hp] at h1; have := HCD.out; omega)).mono ?_
  rintro e W4 ⟨rfl, hd4, ht4⟩
  have hl4 : Lt W2 f2 W4 f2 (fun x => x = c - 2) := ⟨ht4.mono (fun i _ e => by rw [e]; exact HFP.out.2.2), fun _ _ => rfl⟩
  obtain ⟨f4, hf4⟩ : ∃ f4, f4 = f2 := ⟨_, rfl⟩
  rw [← hf4] at hl4 HRe2 HB2 HL2 HFL HFP HLA
  have HP4 := Aside0.mk (show PrAt W4 P f4 c ⟨p.g, p.r, p.ab, p.n, p.c, doneT p.n p.t true xs⟩ from
    ⟨set_tn HSET2.out hl4.tn (by rw [HFP.out.1]; omega), hd4, HS1.out.p.one, HS1.out.p.base, HFP.out.1, HFP.out.2.1, HFP.out.2.2⟩)
  have HS4 := Aside0.mk ((HRe2.out.lt hl4 (fun x e => by omega)).st HP4.out)
  have HB4 := Aside0.mk (HB2.out.lt hl4 (fun h => by have := HCD.out; omega))
  have HLT4 := Aside0.mk (HL2.out.trans (hl4.mono (U := TT c) (fun x e => .inr (.inr (.inl e)))))
  have HO4 := Aside0.mk (own_tn HO2.out hl4.tn (fun k hk e => by simp [Value.ownBlock] at hk; rw [← hk, HFL.out.1] at e; have := HCD.out; omega))
  have HR4 := Aside0.mk (HR2.out.tn hl4.tn (fun ad ha hp e => by rw [HLA.out ad ha hp] at e; have := HCD.out; omega))
  have HFL4 := Aside0.mk HFL.out.1
  clear hd4 ht4 hl4 hf4
  clear cp0 cp1 co0 co1 cx1 cx2 cx3 cr0 cr1 fr0 fr1
  have cp0 := cell_of (j := 0) (v := .pointer (some ⟨p.g, 0, none⟩)) HB4.out.h4 rfl
  have cp1 := cell_of (j := 1) (v := .pointer (some ⟨p.r, 0, none⟩)) HB4.out.h4 rfl
  have co0 := cell_of (j := 0) (v := .pointer (some ⟨o.g, 0, none⟩)) HB4.out.h5 rfl
  have co1 := cell_of (j := 1) (v := .pointer (some ⟨o.r, 0, none⟩)) HB4.out.h5 rfl
  have cx1 := cell_of (j := 1) (v := .int .i64 1) HB4.out.h7 rfl
  have cx2 := cell_of (j := 2) (v := .int .i64 N) HB4.out.h7 rfl
  have cx3 := cell_of (j := 3) (v := .slice LA xs.length lc) HB4.out.h7 rfl
  have cr0 := cell_of (j := 0) (v := .pointer none) HB4.out.h8 rfl
  have cr1 := cell_of (j := 1) (v := .pointer none) HB4.out.h8 rfl
  have fr0 := frozen_of (j := 0) HB4.out.h8
  have fr1 := frozen_of (j := 1) HB4.out.h8
  rw [← HMV.out]
  have hee : (mv == mv) = true := by simp
  have HLd := Aside0.mk (show Lt W4 f4 W4.drew f4 (fun _ => False) from Lt.gb (gb_drew W4 none))
  have HSd := Aside0.mk (HS4.out.lt HLd.out (fun _ h => h.elim))
  have HBd := Aside0.mk (HB4.out.lt HLd.out (fun h => h))
  have HLTd := Aside0.mk (HLT4.out.trans (HLd.out.mono (U := TT c) (fun _ h => h.elim)))
  have HC := Aside0.mk (still_calls W4.drew W.heap.size lb ac xs.length LA lc xs (by omega) (own_tn HO4.out HLd.out.tn (fun _ _ h => h)) (HR4.out.gb (gb_drew W4 none)))
  clear HLd
  go_wp2_with fail
  refine start_ (n := 12) (S := fun w' => w'.cell? ⟨b4, 0, none⟩ = some (.pointer (some ⟨p.g, 0, none⟩)) ∧ w'.cell? ⟨b4, 1, none⟩ = some (.pointer (some ⟨p.r, 0, none⟩)) ∧ w'.cell? ⟨b7, 3, none⟩ = some (.slice LA xs.length lc)) (ds := [10]) #[false, false, false, false, false, false, false, false, false, false, false, false] (by kernel_rfl) rfl rfl ⟨cell_of (j := 0) HBd.out.h4 rfl, cell_of (j := 1) HBd.out.h4 rfl, cell_of (j := 3) HBd.out.h7 rfl⟩ (fun hHeld => ?_)
  refine pure_ (i := 1) (N := some 87) (v := ?_) (a' := ?_) #[false, true, false, false, false, false, false, false, false, false, false, false] rfl rfl (by kernel_rfl) (fun _ _ _ h => h) (Or.inl ⟨by rfl, ?_⟩) ?_ ?_
  rotate_left
  · intro w'
    go_simp
    with_reducible rfl
  rotate_left
  · simp only [Act.put, List.setIfInBounds_toArray, List.set_cons_zero, List.set_cons_succ, i64_w, i32_w]
    rfl
  refine pure_ (i := 2) (N := some 88) (v := ?_) (a' := ?_) #[false, true, true, false, false, false, false, false, false, false, false, false] rfl rfl (by kernel_rfl) (fun _ _ _ h => h) (Or.inl ⟨by rfl, ?_⟩) ?_ ?_
  rotate_left
  · intro w'
    go_simp
    with_reducible rfl
  rotate_left
  · simp only [Act.put, List.setIfInBounds_toArray, List.set_cons_zero, List.set_cons_succ, i64_w, i32_w]
    rfl
  refine take_ (i := 0) (N := some 86) (v := ?_) (a' := ?_) #[true, true, true, false, false, false, false, false, false, false, false, false] rfl rfl (by kernel_rfl) (fun _ _ _ h => h) (Or.inl ⟨by rfl, ?_⟩) hHeld ?_ ?_
  rotate_left
  · rintro w' ⟨s0, s1, s2⟩
    go_simp
    with_reducible rfl
  rotate_left
  · simp only [Act.put, List.setIfInBounds_toArray, List.set_cons_zero, List.set_cons_succ, i64_w, i32_w]
    rfl
  refine take_ (i := 3) (N := some 89) (v := ?_) (a' := ?_) #[true, true, true, true, false, false, false, false, false, false, false, false] rfl rfl (by kernel_rfl) (fun _ _ _ h => h) (Or.inl ⟨by rfl, ?_⟩) hHeld ?_ ?_
  rotate_left
  · rintro w' ⟨s0, s1, s2⟩
    go_simp
    with_reducible rfl
  rotate_left
  · simp only [Act.put, List.setIfInBounds_toArray, List.set_cons_zero, List.set_cons_succ, i64_w, i32_w]
    rfl
  refine one_ (i := 4) (N := some 90) #[true, true, true, true, true, false, false, false, false, false, false, false] rfl rfl (by kernel_rfl) (by decide) (fun K hK => ?_)
  refine goes_ Try.func28 (by kernel_rfl) rfl #[.slice (some ⟨lb, 0, none⟩) (xs.length + 2 : Nat) ac, .slice LA xs.length lc] (by rfl) rfl rfl (by simp only [List.map_toArray, List.map_cons, List.map_nil]; try rfl) ?_
  with_reducible refine (HC.out).mono ?_
  rintro e w9 ⟨rfl, ht⟩
  refine ⟨_, rfl, ?_⟩
  have HL9 := Aside0.mk (show Lt W4.drew f4 w9 f4 (fun x => x = -101) from ⟨ht.mono (fun i _ e => by rw [e]; exact HFL4.out), fun _ _ => rfl⟩); have HS9 := Aside0.mk (HSd.out.lt HL9.out (fun x e => by omega)); have HB9 := Aside0.mk (HBd.out.lt HL9.out (fun h => by omega)); have HLT9 := Aside0.mk (HLTd.out.trans (HL9.out.mono (U := TT c) (fun x h => .inr (.inr (.inr (.inr h)))))); clear ht HC HL9 HSd HBd HLTd; have q8a := cell_of (j := 0) (v := .pointer none) HB9.out.h8 rfl; have q8b := cell_of (j := 1) (v := .pointer none) HB9.out.h8 rfl; have q8c := frozen_of (j := 0) HB9.out.h8; have q8d := frozen_of (j := 1) HB9.out.h8
  refine hK.out _ _ ⟨cell_of (j := 0) HB9.out.h4 rfl, cell_of (j := 1) HB9.out.h4 rfl, cell_of (j := 3) HB9.out.h7 rfl⟩ (fun hHeld => ?_)
  clear hK K
  refine norm_ (a' := ?_) ?_ ?_
  rotate_left
  · show Act.put _ (some 90) _ = _
    simp only [Act.put, List.setIfInBounds_toArray, List.set_cons_zero, List.set_cons_succ, i64_w, i32_w]
    rfl
  refine pure_ (i := 5) (N := some 91) (v := ?_) (a' := ?_) #[true, true, true, true, true, true, false, false, false, false, false, false] rfl rfl (by kernel_rfl) (fun _ _ _ h => h) (Or.inl ⟨by rfl, ?_⟩) ?_ ?_
  rotate_left
  · intro w'
    go_simp
    with_reducible rfl
  rotate_left
  · simp only [Act.put, List.setIfInBounds_toArray, List.set_cons_zero, List.set_cons_succ, i64_w, i32_w]
    rfl
  refine pure_ (i := 6) (N := some 92) (v := ?_) (a' := ?_) #[true, true, true, true, true, true, true, false, false, false, false, false] rfl rfl (by kernel_rfl) (fun _ _ _ h => h) (Or.inl ⟨by rfl, ?_⟩) ?_ ?_
  rotate_left
  · intro w'
    go_simp
    with_reducible rfl
  rotate_left
  · simp only [Act.put, List.setIfInBounds_toArray, List.set_cons_zero, List.set_cons_succ, i64_w, i32_w]
    rfl
  refine pure_ (i := 7) (N := some 93) (v := ?_) (a' := ?_) #[true, true, true, true, true, true, true, true, false, false, false, false] rfl rfl (by kernel_rfl) (fun _ _ _ h => h) (Or.inl ⟨by rfl, ?_⟩) ?_ ?_
  rotate_left
  · intro w'
    go_simp
    with_reducible rfl
  rotate_left
  · simp only [Act.put, List.setIfInBounds_toArray, List.set_cons_zero, List.set_cons_succ, i64_w, i32_w]
    rfl
  refine pure_ (i := 8) (N := some 94) (v := ?_) (a' := ?_) #[true, true, true, true, true, true, true, true, true, false, false, false] rfl rfl (by kernel_rfl) (fun _ _ _ h => h) (Or.inl ⟨by rfl, ?_⟩) ?_ ?_
  rotate_left
  · intro w'
    go_simp
    with_reducible rfl
  rotate_left
  · simp only [Act.put, List.setIfInBounds_toArray, List.set_cons_zero, List.set_cons_succ, i64_w, i32_w]
    rfl
  refine pure_ (i := 9) (N := some 95) (v := ?_) (a' := ?_) #[true, true, true, true, true, true, true, true, true, true, false, false] rfl rfl (by kernel_rfl) (fun _ _ _ h => h) (Or.inl ⟨by rfl, ?_⟩) ?_ ?_
  rotate_left
  · intro w'
    go_simp
    with_reducible rfl
  rotate_left
  · simp only [Act.put, List.setIfInBounds_toArray, List.set_cons_zero, List.set_cons_succ, i64_w, i32_w]
    rfl
  refine last_ (i := 10) (N := none) #[true, true, true, true, true, true, true, true, true, true, true, false] rfl rfl (by kernel_rfl) (by decide) (fun K hK => ?_)
  refine skip_ (w1 := ?_) (by rfl) rfl ?_ ?_
  rotate_left
  · go_simp
    rfl
  refine hK.out _ _ ?_
  clear hK K
  refine pure_ (i := 11) (N := some 9) (v := ?_) (a' := ?_) #[true, true, true, true, true, true, true, true, true, true, true, true] rfl rfl (by kernel_rfl) (fun _ _ _ h => h) (Or.inl ⟨by rfl, ?_⟩) ?_ ?_
  rotate_left
  · intro w'
    go_simp
    with_reducible rfl
  rotate_left
  · simp only [Act.put, List.setIfInBounds_toArray, List.set_cons_zero, List.set_cons_succ, i64_w, i32_w]
    rfl
  refine done_ (by kernel_rfl) ?_
  go_wp2_with fail
  obtain ⟨hend, hblk⟩ := step_end (os := os) HS9.out HB9.out HLT9.out (by omega) HZ8.out
  refine bodyPost_ret (results_ct rfl _ _ b8 45 _ (0, 0) _ rfl hblk Try.underlying45 rfl (by kernel_rfl)) rfl ?_
  exact hend
set_option maxHeartbeats 8000000 in
set_option maxRecDepth 100000 in
theorem step_give (w : World) (P h : Nat) (f : Nat → Int) (c d : Int) (p o : Pr) (OA : Option Addr) (oc : Nat) (WA : Option Addr) (wc : Nat) (os ws : List Sl) (hs : St w P f c d p o h OA oc WA wc os ws) (sec : Bool) (N : Int) (LA : Option Addr) (ln lc : Nat) (xs : List Int) (hr : Rd (Ei .i64) w LA ln xs) (hlb : ∀ ad, LA = some ad → 0 < ln → ad.block < P) (hz : ln * 8 ≤ 140737488351232) :
    Calls Try.prog 16 #[p.val, o.val, .pointer (some ⟨h, 0, none⟩), .agg #[.bool sec, .int .i64 2, .int .i64 N, .slice LA ln lc]] w (StepI w P f c d o h os) := by
  obtain rfl : xs.length = ln := hr.1
  have HR := Aside0.mk hr
  have HLB := Aside0.mk hlb
  clear hr hlb
  obtain ⟨f1, hf1⟩ : ∃ f1 : Nat → Int, f1 = fun i => if i < w.heap.size then f i else -100 := ⟨_, rfl⟩
  obtain ⟨hbx, hg⟩ := step_boxes w f p o sec 2 N LA xs.length lc
  rw [← hf1] at hbx
  have HL0 := Aside0.mk (show Lt w f ((((w.alloc (.cells #[.pointer (some ⟨p.g, 0, none⟩), .pointer (some ⟨p.r, 0, none⟩)] 45)).alloc (.cells #[.pointer (some ⟨o.g, 0, none⟩), .pointer (some ⟨o.r, 0, none⟩)] 45)).alloc (.cells #[.bool sec, .int .i64 2, .int .i64 N, .slice LA xs.length lc] 47)).alloc (.cells #[.pointer none, .pointer none] 45)) f1 (fun _ => False) from ⟨Tn.gb0 hg _, fun i hi => by rw [hf1]; exact if_pos hi⟩)
  have HS0 := Aside0.mk (hs.lt HL0.out (fun _ h => h.elim))
  have HBX := Aside0.mk hbx
  have HZ4 : Aside0 (w.heap.size ≤ w.heap.size) := ⟨Nat.le_refl _⟩
  have HZ8 : Aside0 (w.heap.size ≤ w.heap.size + 1 + 1 + 1) := ⟨by omega⟩
  clear hs hbx hg hf1
  unfold Pr.val
  go_enter Try.func16, Try.ntmps16
  go_upto_region 1 with (fail)
  generalize ((((w.alloc (.cells #[.pointer (some ⟨p.g, 0, none⟩), .pointer (some ⟨p.r, 0, none⟩)] 45)).alloc (.cells #[.pointer (some ⟨o.g, 0, none⟩), .pointer (some ⟨o.r, 0, none⟩)] 45)).alloc (.cells #[.bool sec, .int .i64 2, .int .i64 N, .slice LA xs.length lc] 47)).alloc (.cells #[.pointer none, .pointer none] 45)) = W at HBX HL0 HS0 ⊢
  generalize hb8 : w.heap.size + 1 + 1 + 1 = b8 at HBX HZ8 ⊢
  generalize hb7 : w.heap.size + 1 + 1 = b7 at HBX ⊢
  generalize hb5 : w.heap.size + 1 = b5 at HBX ⊢
  obtain ⟨b4, hb4⟩ : ∃ b4, b4 = w.heap.size := ⟨_, rfl⟩
  rw [← hb4] at HBX ⊢
  rw [← hb4] at HZ4
  have HZ4 : Aside0 (w.heap.size ≤ b4) := ⟨by omega⟩
  clear hb8 hb7 hb5 hb4
  have cp0 := cell_of (j := 0) (v := .pointer (some ⟨p.g, 0, none⟩)) HBX.out.h4 rfl
  have cp1 := cell_of (j := 1) (v := .pointer (some ⟨p.r, 0, none⟩)) HBX.out.h4 rfl
  have co0 := cell_of (j := 0) (v := .pointer (some ⟨o.g, 0, none⟩)) HBX.out.h5 rfl
  have co1 := cell_of (j := 1) (v := .pointer (some ⟨o.r, 0, none⟩)) HBX.out.h5 rfl
  have cx1 := cell_of (j := 1) (v := .int .i64 2) HBX.out.h7 rfl
  have cx2 := cell_of (j := 2) (v := .int .i64 N) HBX.out.h7 rfl
  have cx3 := cell_of (j := 3) (v := .slice LA xs.length lc) HBX.out.h7 rfl
  have cr0 := cell_of (j := 0) (v := .pointer none) HBX.out.h8 rfl
  have cr1 := cell_of (j := 1) (v := .pointer none) HBX.out.h8 rfl
  have fr0 := frozen_of (j := 0) HBX.out.h8
  have fr1 := frozen_of (j := 1) HBX.out.h8
  have HCD := Aside0.mk HS0.out.cd
  have HLOW := Aside0.mk (fun k hk => HS0.out.low k hk)
  have HR0 := Aside0.mk (HR.out.tn HL0.out.tn (fun _ _ _ h => h))
  go_wp2_with fail
  refine (lent_calls W LA xs.length lc xs HR0.out (by omega)).mono ?_
  rintro e W1 ⟨aA, ac, rfl, ho, hg1⟩
  have hll : (xs ++ [-77, -78]).length = xs.length + 2 := by rw [List.length_append]; rfl
  rw [hll] at ho ⊢
  obtain ⟨lb, rfl⟩ := own_some hll ho (by omega)
  obtain ⟨f2, hl1, hf2⟩ := Lt.new (f := f1) (T := fun _ => False) (Tn.gb0 hg1 _) (-101)
  have HS1 := Aside0.mk (HS0.out.lt hl1 (fun _ h => h.elim))
  have HB1 := Aside0.mk (HBX.out.lt hl1 (fun h => h))
  have HL1 := Aside0.mk ((HL0.out.trans hl1).mono (U := TT c) (fun _ h => h.elim))
  have HO1 := Aside0.mk ho
  have HFL := Aside0.mk (show f2 lb = -101 ∧ lb < W1.heap.size from ⟨hf2 lb (ho.lt lb rfl).1, (ho.lt lb rfl).2⟩)
  have HR1 := Aside0.mk (HR0.out.tn hl1.tn (fun _ _ _ h => h))
  have HLA := Aside0.mk (show ∀ ad, LA = some ad → 0 < xs.length → f2 ad.block = -1000 from fun ad ha hp => HS1.out.low _ (HLB.out ad ha hp))
  have hcap := (own_form ho).1
  have hac : xs.length ≤ ac := by omega
  clear cp0 cp1 co0 co1 cx1 cx2 cx3 cr0 cr1 fr0 fr1
  clear ho hg1 hl1 hf2 hll hcap
  have cp0 := cell_of (j := 0) (v := .pointer (some ⟨p.g, 0, none⟩)) HB1.out.h4 rfl
  have cp1 := cell_of (j := 1) (v := .pointer (some ⟨p.r, 0, none⟩)) HB1.out.h4 rfl
  have co0 := cell_of (j := 0) (v := .pointer (some ⟨o.g, 0, none⟩)) HB1.out.h5 rfl
  have co1 := cell_of (j := 1) (v := .pointer (some ⟨o.r, 0, none⟩)) HB1.out.h5 rfl
  have cx1 := cell_of (j := 1) (v := .int .i64 2) HB1.out.h7 rfl
  have cx2 := cell_of (j := 2) (v := .int .i64 N) HB1.out.h7 rfl
  have cx3 := cell_of (j := 3) (v := .slice LA xs.length lc) HB1.out.h7 rfl
  have cr0 := cell_of (j := 0) (v := .pointer none) HB1.out.h8 rfl
  have cr1 := cell_of (j := 1) (v := .pointer none) HB1.out.h8 rfl
  have fr0 := frozen_of (j := 0) HB1.out.h8
  have fr1 := frozen_of (j := 1) HB1.out.h8
  go_wp2_with fail
  have hrl : ReadsInt W1 .i64 (some ⟨lb, 0, none⟩) xs.length xs := by
    have h1 := (own_rd (show (xs ++ [-77, -78]).length = xs.length + 2 by rw [List.length_append]; rfl) HO1.out).take_ xs.length (by omega)
    rw [List.take_append_of_le_length (Nat.le_refl _), List.take_of_length_le (Nat.le_refl _)] at h1
    exact ints_rd h1
  refine (Give_calls W1 p.g p.n p.t (some ⟨lb, 0, none⟩) ac xs HS1.out.p.s hrl (fun ad ha e => by cases ha; have e := Option.some.inj e; simp at e; have h1 := HS1.out.p.fg; rw [← e, HFL.out.1] at h1; have := HCD.out; omega)).mono ?_
  rintro e W2 ⟨rfl, hs2, hg2⟩
  have hl2 : Lt W1 f2 W2 f2 (fun x => x = c) := ⟨Tn.of_gb hg2 (fun k hk => by cases hk; exact HS1.out.p.fg), fun _ _ => rfl⟩
  have HRe2 := Aside0.mk (HS1.out.re.lt hl2 (fun x e => by omega))
  have HD2 := Aside0.mk (HS1.out.p.d.tn hl2.tn (by rw [HS1.out.p.fr]; omega) (by rw [HS1.out.p.fa]; omega))
  have HSET2 := Aside0.mk hs2
  have HB2 := Aside0.mk (HB1.out.lt hl2 (fun h => by have := HCD.out; omega))
  have HL2 := Aside0.mk (HL1.out.trans (hl2.mono (U := TT c) (fun x e => .inl e)))
  have HO2 := Aside0.mk (own_tn HO1.out hl2.tn (fun k hk e => by simp [Value.ownBlock] at hk; rw [← hk, HFL.out.1] at e; have := HCD.out; omega))
  have HR2 := Aside0.mk (HR1.out.tn hl2.tn (fun ad ha hp e => by rw [HLA.out ad ha hp] at e; have := HCD.out; omega))
  have HFP := Aside0.mk (show f2 p.g = c ∧ f2 p.r = c - 1 ∧ f2 p.ab = c - 2 from ⟨HS1.out.p.fg, HS1.out.p.fr, HS1.out.p.fa⟩)
  clear hrl hs2 hg2 hl2
  clear cp0 cp1 co0 co1 cx1 cx2 cx3 cr0 cr1 fr0 fr1
  have cp0 := cell_of (j := 0) (v := .pointer (some ⟨p.g, 0, none⟩)) HB2.out.h4 rfl
  have cp1 := cell_of (j := 1) (v := .pointer (some ⟨p.r, 0, none⟩)) HB2.out.h4 rfl
  have co0 := cell_of (j := 0) (v := .pointer (some ⟨o.g, 0, none⟩)) HB2.out.h5 rfl
  have co1 := cell_of (j := 1) (v := .pointer (some ⟨o.r, 0, none⟩)) HB2.out.h5 rfl
  have cx1 := cell_of (j := 1) (v := .int .i64 2) HB2.out.h7 rfl
  have cx2 := cell_of (j := 2) (v := .int .i64 N) HB2.out.h7 rfl
  have cx3 := cell_of (j := 3) (v := .slice LA xs.length lc) HB2.out.h7 rfl
  have cr0 := cell_of (j := 0) (v := .pointer none) HB2.out.h8 rfl
  have cr1 := cell_of (j := 1) (v := .pointer none) HB2.out.h8 rfl
  have fr0 := frozen_of (j := 0) HB2.out.h8
  have fr1 := frozen_of (j := 1) HB2.out.h8
  obtain ⟨mv, hmv⟩ : ∃ mv, mv = mayE p.n p.t false xs := ⟨_, rfl⟩
  have HMV := Aside0.mk hmv
  rw [← hmv]
  clear hmv
  go_wp2_with fail
  refine (rGive_calls W2 P p.r p.ab p.n p.c p.t LA xs.length lc xs HD2.out HR2.out (fun ad ha hp e => by have h1 := HFP.out.2.2; rw [← e, HLA.out ad ha hp] at h1; have := HCD.out; omega)).mono ?_
  rintro e W4 ⟨rfl, hd4, ht4⟩
  have hl4 : Lt W2 f2 W4 f2 (fun x => x = c - 2) := ⟨ht4.mono (fun i _ e => by rw [e]; exact HFP.out.2.2), fun _ _ => rfl⟩
  obtain ⟨f4, hf4⟩ : ∃ f4, f4 = f2 := ⟨_, rfl⟩
  rw [← hf4] at hl4 HRe2 HB2 HL2 HFL HFP HLA
  have HP4 := Aside0.mk (show PrAt W4 P f4 c ⟨p.g, p.r, p.ab, p.n, p.c, doneT p.n p.t false xs⟩ from
    ⟨set_tn HSET2.out hl4.tn (by rw [HFP.out.1]; omega), hd4, HS1.out.p.one, HS1.out.p.base, HFP.out.1, HFP.out.2.1, HFP.out.2.2⟩)
  have HS4 := Aside0.mk ((HRe2.out.lt hl4 (fun x e => by omega)).st HP4.out)
  have HB4 := Aside0.mk (HB2.out.lt hl4 (fun h => by have := HCD.out; omega))
  have HLT4 := Aside0.mk (HL2.out.trans (hl4.mono (U := TT c) (fun x e => .inr (.inr (.inl e)))))
  have HO4 := Aside0.mk (own_tn HO2.out hl4.tn (fun k hk e => by simp [Value.ownBlock] at hk; rw [← hk, HFL.out.1] at e; have := HCD.out; omega))
  have HR4 := Aside0.mk (HR2.out.tn hl4.tn (fun ad ha hp e => by rw [HLA.out ad ha hp] at e; have := HCD.out; omega))
  have HFL4 := Aside0.mk HFL.out.1
  clear hd4 ht4 hl4 hf4
  clear cp0 cp1 co0 co1 cx1 cx2 cx3 cr0 cr1 fr0 fr1
  have cp0 := cell_of (j := 0) (v := .pointer (some ⟨p.g, 0, none⟩)) HB4.out.h4 rfl
  have cp1 := cell_of (j := 1) (v := .pointer (some ⟨p.r, 0, none⟩)) HB4.out.h4 rfl
  have co0 := cell_of (j := 0) (v := .pointer (some ⟨o.g, 0, none⟩)) HB4.out.h5 rfl
  have co1 := cell_of (j := 1) (v := .pointer (some ⟨o.r, 0, none⟩)) HB4.out.h5 rfl
  have cx1 := cell_of (j := 1) (v := .int .i64 2) HB4.out.h7 rfl
  have cx2 := cell_of (j := 2) (v := .int .i64 N) HB4.out.h7 rfl
  have cx3 := cell_of (j := 3) (v := .slice LA xs.length lc) HB4.out.h7 rfl
  have cr0 := cell_of (j := 0) (v := .pointer none) HB4.out.h8 rfl
  have cr1 := cell_of (j := 1) (v := .pointer none) HB4.out.h8 rfl
  have fr0 := frozen_of (j := 0) HB4.out.h8
  have fr1 := frozen_of (j := 1) HB4.out.h8
  rw [← HMV.out]
  have hee : (mv == mv) = true := by simp
  have HLd := Aside0.mk (show Lt W4 f4 W4.drew f4 (fun _ => False) from Lt.gb (gb_drew W4 none))
  have HSd := Aside0.mk (HS4.out.lt HLd.out (fun _ h => h.elim))
  have HBd := Aside0.mk (HB4.out.lt HLd.out (fun h => h))
  have HLTd := Aside0.mk (HLT4.out.trans (HLd.out.mono (U := TT c) (fun _ h => h.elim)))
  have HC := Aside0.mk (still_calls W4.drew W.heap.size lb ac xs.length LA lc xs (by omega) (own_tn HO4.out HLd.out.tn (fun _ _ h => h)) (HR4.out.gb (gb_drew W4 none)))
  clear HLd
  go_wp2_with fail
  refine start_ (n := 12) (S := fun w' => w'.cell? ⟨b4, 0, none⟩ = some (.pointer (some ⟨p.g, 0, none⟩)) ∧ w'.cell? ⟨b4, 1, none⟩ = some (.pointer (some ⟨p.r, 0, none⟩)) ∧ w'.cell? ⟨b7, 3, none⟩ = some (.slice LA xs.length lc)) (ds := [10]) #[false, false, false, false, false, false, false, false, false, false, false, false] (by kernel_rfl) rfl rfl ⟨cell_of (j := 0) HBd.out.h4 rfl, cell_of (j := 1) HBd.out.h4 rfl, cell_of (j := 3) HBd.out.h7 rfl⟩ (fun hHeld => ?_)
  refine pure_ (i := 1) (N := some 87) (v := ?_) (a' := ?_) #[false, true, false, false, false, false, false, false, false, false, false, false] rfl rfl (by kernel_rfl) (fun _ _ _ h => h) (Or.inl ⟨by rfl, ?_⟩) ?_ ?_
  rotate_left
  · intro w'
    go_simp
    with_reducible rfl
  rotate_left
  · simp only [Act.put, List.setIfInBounds_toArray, List.set_cons_zero, List.set_cons_succ, i64_w, i32_w]
    rfl
  refine pure_ (i := 2) (N := some 88) (v := ?_) (a' := ?_) #[false, true, true, false, false, false, false, false, false, false, false, false] rfl rfl (by kernel_rfl) (fun _ _ _ h => h) (Or.inl ⟨by rfl, ?_⟩) ?_ ?_
  rotate_left
  · intro w'
    go_simp
    with_reducible rfl
  rotate_left
  · simp only [Act.put, List.setIfInBounds_toArray, List.set_cons_zero, List.set_cons_succ, i64_w, i32_w]
    rfl
  refine take_ (i := 0) (N := some 86) (v := ?_) (a' := ?_) #[true, true, true, false, false, false, false, false, false, false, false, false] rfl rfl (by kernel_rfl) (fun _ _ _ h => h) (Or.inl ⟨by rfl, ?_⟩) hHeld ?_ ?_
  rotate_left
  · rintro w' ⟨s0, s1, s2⟩
    go_simp
    with_reducible rfl
  rotate_left
  · simp only [Act.put, List.setIfInBounds_toArray, List.set_cons_zero, List.set_cons_succ, i64_w, i32_w]
    rfl
  refine take_ (i := 3) (N := some 89) (v := ?_) (a' := ?_) #[true, true, true, true, false, false, false, false, false, false, false, false] rfl rfl (by kernel_rfl) (fun _ _ _ h => h) (Or.inl ⟨by rfl, ?_⟩) hHeld ?_ ?_
  rotate_left
  · rintro w' ⟨s0, s1, s2⟩
    go_simp
    with_reducible rfl
  rotate_left
  · simp only [Act.put, List.setIfInBounds_toArray, List.set_cons_zero, List.set_cons_succ, i64_w, i32_w]
    rfl
  refine one_ (i := 4) (N := some 90) #[true, true, true, true, true, false, false, false, false, false, false, false] rfl rfl (by kernel_rfl) (by decide) (fun K hK => ?_)
  refine goes_ Try.func28 (by kernel_rfl) rfl #[.slice (some ⟨lb, 0, none⟩) (xs.length + 2 : Nat) ac, .slice LA xs.length lc] (by rfl) rfl rfl (by simp only [List.map_toArray, List.map_cons, List.map_nil]; try rfl) ?_
  with_reducible refine (HC.out).mono ?_
  rintro e w9 ⟨rfl, ht⟩
  refine ⟨_, rfl, ?_⟩
  have HL9 := Aside0.mk (show Lt W4.drew f4 w9 f4 (fun x => x = -101) from ⟨ht.mono (fun i _ e => by rw [e]; exact HFL4.out), fun _ _ => rfl⟩); have HS9 := Aside0.mk (HSd.out.lt HL9.out (fun x e => by omega)); have HB9 := Aside0.mk (HBd.out.lt HL9.out (fun h => by omega)); have HLT9 := Aside0.mk (HLTd.out.trans (HL9.out.mono (U := TT c) (fun x h => .inr (.inr (.inr (.inr h)))))); clear ht HC HL9 HSd HBd HLTd; have q8a := cell_of (j := 0) (v := .pointer none) HB9.out.h8 rfl; have q8b := cell_of (j := 1) (v := .pointer none) HB9.out.h8 rfl; have q8c := frozen_of (j := 0) HB9.out.h8; have q8d := frozen_of (j := 1) HB9.out.h8
  refine hK.out _ _ ⟨cell_of (j := 0) HB9.out.h4 rfl, cell_of (j := 1) HB9.out.h4 rfl, cell_of (j := 3) HB9.out.h7 rfl⟩ (fun hHeld => ?_)
  clear hK K
  refine norm_ (a' := ?_) ?_ ?_
  rotate_left
  · show Act.put _ (some 90) _ = _
    simp only [Act.put, List.setIfInBounds_toArray, List.set_cons_zero, List.set_cons_succ, i64_w, i32_w]
    rfl
  refine pure_ (i := 5) (N := some 91) (v := ?_) (a' := ?_) #[true, true, true, true, true, true, false, false, false, false, false, false] rfl rfl (by kernel_rfl) (fun _ _ _ h => h) (Or.inl ⟨by rfl, ?_⟩) ?_ ?_
  rotate_left
  · intro w'
    go_simp
    with_reducible rfl
  rotate_left
  · simp only [Act.put, List.setIfInBounds_toArray, List.set_cons_zero, List.set_cons_succ, i64_w, i32_w]
    rfl
  refine pure_ (i := 6) (N := some 92) (v := ?_) (a' := ?_) #[true, true, true, true, true, true, true, false, false, false, false, false] rfl rfl (by kernel_rfl) (fun _ _ _ h => h) (Or.inl ⟨by rfl, ?_⟩) ?_ ?_
  rotate_left
  · intro w'
    go_simp
    with_reducible rfl
  rotate_left
  · simp only [Act.put, List.setIfInBounds_toArray, List.set_cons_zero, List.set_cons_succ, i64_w, i32_w]
    rfl
  refine pure_ (i := 7) (N := some 93) (v := ?_) (a' := ?_) #[true, true, true, true, true, true, true, true, false, false, false, false] rfl rfl (by kernel_rfl) (fun _ _ _ h => h) (Or.inl ⟨by rfl, ?_⟩) ?_ ?_
  rotate_left
  · intro w'
    go_simp
    with_reducible rfl
  rotate_left
  · simp only [Act.put, List.setIfInBounds_toArray, List.set_cons_zero, List.set_cons_succ, i64_w, i32_w]
    rfl
  refine pure_ (i := 8) (N := some 94) (v := ?_) (a' := ?_) #[true, true, true, true, true, true, true, true, true, false, false, false] rfl rfl (by kernel_rfl) (fun _ _ _ h => h) (Or.inl ⟨by rfl, ?_⟩) ?_ ?_
  rotate_left
  · intro w'
    go_simp
    with_reducible rfl
  rotate_left
  · simp only [Act.put, List.setIfInBounds_toArray, List.set_cons_zero, List.set_cons_succ, i64_w, i32_w]
    rfl
  refine pure_ (i := 9) (N := some 95) (v := ?_) (a' := ?_) #[true, true, true, true, true, true, true, true, true, true, false, false] rfl rfl (by kernel_rfl) (fun _ _ _ h => h) (Or.inl ⟨by rfl, ?_⟩) ?_ ?_
  rotate_left
  · intro w'
    go_simp
    with_reducible rfl
  rotate_left
  · simp only [Act.put, List.setIfInBounds_toArray, List.set_cons_zero, List.set_cons_succ, i64_w, i32_w]
    rfl
  refine last_ (i := 10) (N := none) #[true, true, true, true, true, true, true, true, true, true, true, false] rfl rfl (by kernel_rfl) (by decide) (fun K hK => ?_)
  refine skip_ (w1 := ?_) (by rfl) rfl ?_ ?_
  rotate_left
  · go_simp
    rfl
  refine hK.out _ _ ?_
  clear hK K
  refine pure_ (i := 11) (N := some 9) (v := ?_) (a' := ?_) #[true, true, true, true, true, true, true, true, true, true, true, true] rfl rfl (by kernel_rfl) (fun _ _ _ h => h) (Or.inl ⟨by rfl, ?_⟩) ?_ ?_
  rotate_left
  · intro w'
    go_simp
    with_reducible rfl
  rotate_left
  · simp only [Act.put, List.setIfInBounds_toArray, List.set_cons_zero, List.set_cons_succ, i64_w, i32_w]
    rfl
  refine done_ (by kernel_rfl) ?_
  go_wp2_with fail
  obtain ⟨hend, hblk⟩ := step_end (os := os) HS9.out HB9.out HLT9.out (by omega) HZ8.out
  refine bodyPost_ret (results_ct rfl _ _ b8 45 _ (0, 0) _ rfl hblk Try.underlying45 rfl (by kernel_rfl)) rfl ?_
  exact hend
end Go.Proofs.Ytohopfbacfddbaa.S
