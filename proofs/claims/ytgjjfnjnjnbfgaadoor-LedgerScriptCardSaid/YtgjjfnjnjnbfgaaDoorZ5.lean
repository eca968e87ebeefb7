/- The texts of this claim, put together by program, what it does not name left out: part 5. Conditions: each theorem's own. -/
import Derived.Test.YtgjjfnjnjnbfgaaDoorZ4
namespace Go.Proofs.YtgjjfnjnjnbfgaaDoor.L
open Go.RowKit Go.Proofs.YtgjjfnjnjnbfgaaDoorW.PrintWords Go.Proofs.YtgjjfnjnjnbfgaaDoorW.PrintLast Go.Proofs.YtgjjfnjnjnbfgaaDoor.H Go.Proofs.YtgjjfnjnjnbfgaaDoor.Q Go.Proofs.YtgjjfnjnjnbfgaaDoor.GLG
set_option linter.unusedVariables false
set_option linter.unusedSimpArgs false
/-- What Open answers and leaves. -/
def rOpenI (w : World) (B g : Nat) (A : Option Addr) (n : Nat) (cf : Cf) (factor : Int) (xs : List Int) (e : Ending) (w' : World) : Prop:=
  ∃ A' c',e = .returned (.int .i64 (n : Int)) ∧ RefAt w' B g A' (n + 1) c' cf factor (xs ++ [0]) ∧ Tn w w' (Foot g A) ∧ ∀ ad,A' = some ad → (∃ a0,A = some a0 ∧ ad.block = a0.block) ∨ w.heap.size ≤ ad.block
set_option maxHeartbeats 8000000 in
set_option maxRecDepth 100000 in
theorem rOpen_calls (w : World) (B g : Nat) (A : Option Addr) (n c : Nat) (cf : Cf) (factor : Int) (xs : List Int) (h : RefAt w B g A n c cf factor xs) (hn : n ≤ 1000) :
    Calls Tryd.prog 35 #[.pointer (some ⟨g,0,none⟩)] w (rOpenI w B g A n cf factor xs):=by
  have HL:=Aside0.mk h
  have HL1:=Aside0.mk (h.gb (World.grownBy_alloc w (.cells #[.int .u64 0] 28) none))
  have hc0:=h.c9
  have HB1 : Aside0 (B ≤ (w.alloc (.cells #[.int .u64 0] 28)).heap.size):=⟨by have:=h.lt;have:=h.base;simp;omega⟩
  have HR1:=Aside0.mk (show Rd (Ei .u64) (w.alloc (.cells #[.int .u64 0] 28)) (some ⟨w.heap.size,0,none⟩) 1 [0] from rd_lit (Ei .u64) w 28 [0] (by simp))
  have HLn:=Aside0.mk (show (xs ++ [0]).length = n + 1 by rw [List.length_append,h.len];rfl)
  clear h
  go_enter Tryd.func35,Tryd.ntmps35
  go_wp2_with (at_builtin;refine app_at (Ei .u64) B rfl (.tmp 7) (.tmp 8) 24 28 (.int .u64 0) 8 rfl Tryd.underlying24 (by kernel_rfl) rfl (by decide) (.slice A n c) n xs [0] ⟨w.heap.size,0,none⟩ 1 1 rfl rfl HL1.out.own HR1.out HB1.out (by omega) ?_;intro v3 w3 ho hg hat;obtain ⟨A3,c3,rfl,-,-,-⟩:=own_open HLn.out ho;have HO3:=Aside0.mk ho;have HG3:=Aside0.mk hg;have HA3:=Aside0.mk hat;have HK3:=Aside0.mk (blk_kept HL1.out.blk hg (by cases A with | none => simp [Value.ownBlock] | some ad => have:=HL1.out.ne ad rfl;simp [Value.ownBlock];omega));have hk3:=cell_of (j:=9) (v:=.slice A n c) HK3.out rfl;have hf3:=frozen_of (j:=9) HK3.out;clear ho hg hat)
  go_ret
  have hL:=HL.out
  have hne : ∀ ad,A3 = some ad → (∃ a0,A = some a0 ∧ ad.block = a0.block) ∨ w.heap.size < ad.block:=fun ad ha => by
    subst ha
    rcases HA3.out with h1 | h1
    · cases A with
      | none => simp [Value.ownBlock] at h1
      | some a0 => exact .inl ⟨a0,rfl,by simpa [Value.ownBlock] using h1⟩
    · exact .inr (by simp [Value.ownBlock] at h1;omega)
  have hng : ∀ ad,A3 = some ad → ad.block ≠ g:=fun ad ha => by
    rcases hne ad ha with ⟨a0,h1,h2⟩ | h1
    · rw [h2];exact hL.ne a0 h1
    · have:=hL.lt;omega
  have hT : Tn w w3 (Foot g A):=(Tn.alloc w _ _).trans' (Tn.of_gb HG3.out (fun k hk => .inr (by cases A with | none => simp [Value.ownBlock] at hk | some ad => exact ⟨ad,rfl,by simpa [Value.ownBlock] using hk.symm⟩)))
  refine ⟨A3,c3,rfl,⟨?_,?_,HLn.out,hng,hL.base,?_,hL.fac,hL.nod⟩,hT.trans' (Tn.set g 9 _ (.inl rfl)),fun ad ha => (hne ad ha).imp id Nat.le_of_lt⟩
  · have:=blk_set 9 (.slice A3 (n + 1) c3) HK3.out
    simpa [refC] using this
  · exact own_tn HO3.out (Tn.set g 9 _ (F:=fun k => k = g) rfl) (fun k hk he => by cases A3 with | none => simp [Value.ownBlock] at hk | some ad => exact hng ad rfl (by simp [Value.ownBlock] at hk;omega))
  · intro x hx
    rcases List.mem_append.1 hx with h1 | h1
    · exact hL.val x h1
    · simp at h1;subst h1;exact ⟨by decide,by decide⟩
/-- What Charge answers and leaves. -/
def rChargeI (w : World) (B g : Nat) (A : Option Addr) (n c : Nat) (cf : Cf) (factor : Int) (xs : List Int) (a m : Int) (e : Ending) (w' : World) : Prop:=
  e = .returned (.int .i64 (chargeC cf.a0 n a m)) ∧ RefAt w' B g A n c cf factor (chargeL cf.a0 n xs a m) ∧ Tn w w' (Foot g A)
theorem there_neg {n : Nat} {a : Int} (h : a < 0) : thereB n a = false:=by unfold thereB;rw [decide_eq_false (by omega)];rfl
theorem there_big {n : Nat} {a : Int} (h : (n : Int) ≤ a) : thereB n a = false:=by unfold thereB;rw [decide_eq_false (show ¬ a < (n : Int) by omega),Bool.and_false]
theorem there_in {n k : Nat} (h : k < n) : thereB n (k : Int) = true:=by unfold thereB;rw [decide_eq_true (by omega),decide_eq_true (by omega)];rfl
set_option maxHeartbeats 8000000 in
set_option maxRecDepth 100000 in
theorem rCharge_calls (w : World) (B g : Nat) (A : Option Addr) (n c : Nat) (cf : Cf) (factor : Int) (xs : List Int) (a m : Int) (h : RefAt w B g A n c cf factor xs) (hm : m ≤ 9223372036854775807) :
    Calls Tryd.prog 36 #[.pointer (some ⟨g,0,none⟩),.int .i64 a,.int .i64 m] w (rChargeI w B g A n c cf factor xs a m):=by
  have HL:=Aside0.mk h
  have hc9:=h.c9
  have hc1:=h.c0
  obtain ⟨hp0,hp1⟩:=h.nod
  obtain ⟨nodes,hnd⟩ : ∃ q,q = cf.a0:=⟨_,rfl⟩
  unfold rChargeI
  rw [← hnd] at hc1 hp0 hp1 ⊢
  clear h hnd
  by_cases ha : a < 0
  · have HE:=Aside0.mk (show chargeC nodes n a m = 120 by unfold chargeC;rw [there_neg ha];rfl)
    have HE2:=Aside0.mk (show chargeL nodes n xs a m = xs by unfold chargeL;rw [HE.out];rfl)
    have hb : decide (a < 0) = true:=decide_eq_true ha
    clear ha
    go_enter Tryd.func36,Tryd.ntmps36
    go_wp2
    go_ret
    exact ⟨by rw [HE.out];rfl,by rw [HE2.out];exact HL.out,Tn.refl _ _⟩
  have hb : decide (a < 0) = false:=decide_eq_false ha
  by_cases hbig : (n : Int) ≤ a
  · have HE:=Aside0.mk (show chargeC nodes n a m = 120 by unfold chargeC;rw [there_big hbig];rfl)
    have HE2:=Aside0.mk (show chargeL nodes n xs a m = xs by unfold chargeL;rw [HE.out];rfl)
    have hb1 : decide ((n : Int) ≤ a) = true:=decide_eq_true hbig
    clear hbig ha
    go_enter Tryd.func36,Tryd.ntmps36
    go_wp2
    go_ret
    exact ⟨by rw [HE.out];rfl,by rw [HE2.out];exact HL.out,Tn.refl _ _⟩
  obtain ⟨k,rfl⟩ : ∃ k : Nat,a = k:=⟨a.toNat,by omega⟩
  have hk : k < n:=by omega
  have hbn : decide (n ≤ k) = false:=decide_eq_false (by omega)
  have hbi : decide ((n : Int) ≤ (k : Int)) = false:=decide_eq_false (by omega)
  have HTh:=Aside0.mk (there_in hk)
  clear ha hbig
  by_cases h0 : m < 0
  · have HE:=Aside0.mk (show chargeC nodes n k m = 1 by unfold chargeC;rw [HTh.out,if_pos rfl,if_pos h0])
    have HE2:=Aside0.mk (show chargeL nodes n xs k m = xs by unfold chargeL;rw [HE.out];rfl)
    have hb1 : decide (m < 0) = true:=decide_eq_true h0
    go_enter Tryd.func36,Tryd.ntmps36
    go_wp2
    go_ret
    exact ⟨by rw [HE.out];rfl,by rw [HE2.out];exact HL.out,Tn.refl _ _⟩
  have hb1 : decide (m < 0) = false:=decide_eq_false h0
  by_cases h1 : nodes < m
  · have HE:=Aside0.mk (show chargeC nodes n k m = 1 by unfold chargeC;rw [HTh.out,if_pos rfl,if_neg h0,if_pos h1])
    have HE2:=Aside0.mk (show chargeL nodes n xs k m = xs by unfold chargeL;rw [HE.out];rfl)
    have hb2 : decide (nodes < m) = true:=decide_eq_true h1
    go_enter Tryd.func36,Tryd.ntmps36
    go_wp2
    go_ret
    exact ⟨by rw [HE.out];rfl,by rw [HE2.out];exact HL.out,Tn.refl _ _⟩
  have hb2 : decide (nodes < m) = false:=decide_eq_false h1
  have HE:=Aside0.mk (show chargeC nodes n k m = 0 by unfold chargeC;rw [HTh.out,if_pos rfl,if_neg h0,if_neg h1])
  have HE2:=Aside0.mk (show chargeL nodes n xs k m = xs.set k (chargeV (rd xs k) m) by unfold chargeL;rw [HE.out,if_pos rfl,Int.toNat_natCast])
  obtain ⟨ab,rfl,hne⟩:=ref_form HL.out (by omega)
  have HU:=Aside0.mk (show U (rd xs (k : Int)) from rdU HL.out.val (k : Int))
  have HUc:=Aside0.mk (chargeU HU.out hm)
  have HLd:=Aside0.mk (show RefAt w.drew B g (some ⟨ab,0,none⟩) n c cf factor xs from HL.out.gb (gb_drew w none))
  have HCh:=Aside0.mk (rcharge_calls w.drew (rd xs (k : Int)) m HU.out hm)
  have hk1 : (k : Int) < (n : Int):=by omega
  have hk0 : (0 : Int) ≤ (k : Int):=by omega
  clear hne
  go_enter Tryd.func36,Tryd.ntmps36
  go_wp2_with fail
  refine start_ (n:=16) (S:=fun w' => w'.cell? ⟨g,9,none⟩ = some (.slice (some ⟨ab,0,none⟩) n c) ∧ w'.cell? ⟨ab,k,none⟩ = some (.int .u64 (rd xs (k : Int)))) (ds:=[15]) #[false,false,false,false,false,false,false,false,false,false,false,false,false,false,false,false] (by kernel_rfl) rfl rfl ⟨HLd.out.c9,ref_cell HLd.out k hk⟩ (fun hHeld => ?_)
  refine pure_ (i:=0) (N:=some 29) (v:=?_) (a':=?_) #[true,false,false,false,false,false,false,false,false,false,false,false,false,false,false,false] rfl rfl (by kernel_rfl) (fun _ _ _ h => h) (Or.inl ⟨by rfl,?_⟩) ?_ ?_
  rotate_left
  · intro w'
    go_simp
    with_reducible rfl
  rotate_left
  · simp only [Act.put,List.setIfInBounds_toArray,List.set_cons_zero,List.set_cons_succ,i64_w,i32_w]
    rfl
  refine pure_ (i:=1) (N:=some 30) (v:=?_) (a':=?_) #[true,true,false,false,false,false,false,false,false,false,false,false,false,false,false,false] rfl rfl (by kernel_rfl) (fun _ _ _ h => h) (Or.inl ⟨by rfl,?_⟩) ?_ ?_
  rotate_left
  · intro w'
    go_simp
    with_reducible rfl
  rotate_left
  · simp only [Act.put,List.setIfInBounds_toArray,List.set_cons_zero,List.set_cons_succ,i64_w,i32_w]
    rfl
  refine pure_ (i:=2) (N:=some 31) (v:=?_) (a':=?_) #[true,true,true,false,false,false,false,false,false,false,false,false,false,false,false,false] rfl rfl (by kernel_rfl) (fun _ _ _ h => h) (Or.inl ⟨by rfl,?_⟩) ?_ ?_
  rotate_left
  · intro w'
    go_simp
    with_reducible rfl
  rotate_left
  · simp only [Act.put,List.setIfInBounds_toArray,List.set_cons_zero,List.set_cons_succ,i64_w,i32_w]
    rfl
  refine pure_ (i:=4) (N:=some 33) (v:=?_) (a':=?_) #[true,true,true,false,true,false,false,false,false,false,false,false,false,false,false,false] rfl rfl (by kernel_rfl) (fun _ _ _ h => h) (Or.inl ⟨by rfl,?_⟩) ?_ ?_
  rotate_left
  · intro w'
    go_simp
    with_reducible rfl
  rotate_left
  · simp only [Act.put,List.setIfInBounds_toArray,List.set_cons_zero,List.set_cons_succ,i64_w,i32_w]
    rfl
  refine pure_ (i:=5) (N:=some 34) (v:=?_) (a':=?_) #[true,true,true,false,true,true,false,false,false,false,false,false,false,false,false,false] rfl rfl (by kernel_rfl) (fun _ _ _ h => h) (Or.inl ⟨by rfl,?_⟩) ?_ ?_
  rotate_left
  · intro w'
    go_simp
    with_reducible rfl
  rotate_left
  · simp only [Act.put,List.setIfInBounds_toArray,List.set_cons_zero,List.set_cons_succ,i64_w,i32_w]
    rfl
  refine pure_ (i:=6) (N:=some 35) (v:=?_) (a':=?_) #[true,true,true,false,true,true,true,false,false,false,false,false,false,false,false,false] rfl rfl (by kernel_rfl) (fun _ _ _ h => h) (Or.inl ⟨by rfl,?_⟩) ?_ ?_
  rotate_left
  · intro w'
    go_simp
    with_reducible rfl
  rotate_left
  · simp only [Act.put,List.setIfInBounds_toArray,List.set_cons_zero,List.set_cons_succ,i64_w,i32_w]
    rfl
  refine pure_ (i:=7) (N:=some 36) (v:=?_) (a':=?_) #[true,true,true,false,true,true,true,true,false,false,false,false,false,false,false,false] rfl rfl (by kernel_rfl) (fun _ _ _ h => h) (Or.inl ⟨by rfl,?_⟩) ?_ ?_
  rotate_left
  · intro w'
    go_simp
    with_reducible rfl
  rotate_left
  · simp only [Act.put,List.setIfInBounds_toArray,List.set_cons_zero,List.set_cons_succ,i64_w,i32_w]
    rfl
  refine pure_ (i:=9) (N:=some 38) (v:=?_) (a':=?_) #[true,true,true,false,true,true,true,true,false,true,false,false,false,false,false,false] rfl rfl (by kernel_rfl) (fun _ _ _ h => h) (Or.inl ⟨by rfl,?_⟩) ?_ ?_
  rotate_left
  · intro w'
    go_simp
    with_reducible rfl
  rotate_left
  · simp only [Act.put,List.setIfInBounds_toArray,List.set_cons_zero,List.set_cons_succ,i64_w,i32_w]
    rfl
  refine pure_ (i:=12) (N:=some 41) (v:=?_) (a':=?_) #[true,true,true,false,true,true,true,true,false,true,false,false,true,false,false,false] rfl rfl (by kernel_rfl) (fun _ _ _ h => h) (Or.inl ⟨by rfl,?_⟩) ?_ ?_
  rotate_left
  · intro w'
    go_simp
    with_reducible rfl
  rotate_left
  · simp only [Act.put,List.setIfInBounds_toArray,List.set_cons_zero,List.set_cons_succ,i64_w,i32_w]
    rfl
  refine take_ (i:=3) (N:=some 32) (v:=?_) (a':=?_) #[true,true,true,true,true,true,true,true,false,true,false,false,true,false,false,false] rfl rfl (by kernel_rfl) (fun _ _ _ h => h) (Or.inl ⟨by rfl,?_⟩) hHeld ?_ ?_
  rotate_left
  · rintro w' ⟨s0,s1⟩
    go_simp
    with_reducible rfl
  rotate_left
  · simp only [Act.put,List.setIfInBounds_toArray,List.set_cons_zero,List.set_cons_succ,i64_w,i32_w]
    rfl
  refine take_ (i:=8) (N:=some 37) (v:=?_) (a':=?_) #[true,true,true,true,true,true,true,true,true,true,false,false,true,false,false,false] rfl rfl (by kernel_rfl) (fun _ _ _ h => h) (Or.inl ⟨by rfl,?_⟩) hHeld ?_ ?_
  rotate_left
  · rintro w' ⟨s0,s1⟩
    go_simp
    with_reducible rfl
  rotate_left
  · simp only [Act.put,List.setIfInBounds_toArray,List.set_cons_zero,List.set_cons_succ,i64_w,i32_w]
    rfl
  refine pure_ (i:=10) (N:=some 39) (v:=?_) (a':=?_) #[true,true,true,true,true,true,true,true,true,true,true,false,true,false,false,false] rfl rfl (by kernel_rfl) (fun _ _ _ h => h) (Or.inl ⟨by rfl,?_⟩) ?_ ?_
  rotate_left
  · intro w'
    go_simp
    with_reducible rfl
  rotate_left
  · simp only [Act.put,List.setIfInBounds_toArray,List.set_cons_zero,List.set_cons_succ,i64_w,i32_w]
    rfl
  refine take_ (i:=11) (N:=some 40) (v:=?_) (a':=?_) #[true,true,true,true,true,true,true,true,true,true,true,true,true,false,false,false] rfl rfl (by kernel_rfl) (fun _ _ _ h => h) (Or.inl ⟨by rfl,?_⟩) hHeld ?_ ?_
  rotate_left
  · rintro w' ⟨s0,s1⟩
    go_simp
    with_reducible rfl
  rotate_left
  · simp only [Act.put,List.setIfInBounds_toArray,List.set_cons_zero,List.set_cons_succ,i64_w,i32_w]
    rfl
  refine one_ (i:=13) (N:=some 42) #[true,true,true,true,true,true,true,true,true,true,true,true,true,true,false,false] rfl rfl (by kernel_rfl) (by decide) (fun K hK => ?_)
  refine goes_ Tryd.func60 (by kernel_rfl) rfl #[.int .u64 (rd xs (k : Int)),.int .i64 m] (by rfl) rfl rfl (by simp only [List.map_toArray,List.map_cons,List.map_nil];try rfl) ?_
  with_reducible refine (HCh.out).mono ?_
  rintro e w3 ⟨rfl,hb⟩
  refine ⟨_,rfl,?_⟩
  have HL3:=Aside0.mk (HLd.out.gb (gb_of_below hb none));have HT3:=Aside0.mk ((Tn.drew w (Foot g (some ⟨ab,0,none⟩))).trans' (Tn.of_below hb _));have hf3:=own_frozen HL3.out.own (k : Nat);clear hb HLd HCh
  refine hK.out _ _ ⟨HL3.out.c9,ref_cell HL3.out k hk⟩ (fun hHeld => ?_)
  clear hK K
  refine norm_ (a':=?_) ?_ ?_
  rotate_left
  · show Act.put _ (some 42) _ = _
    simp only [Act.put,List.setIfInBounds_toArray,List.set_cons_zero,List.set_cons_succ,i64_w,i32_w]
    rfl
  refine pure_ (i:=14) (N:=some 43) (v:=?_) (a':=?_) #[true,true,true,true,true,true,true,true,true,true,true,true,true,true,true,false] rfl rfl (by kernel_rfl) (fun _ _ _ h => h) (Or.inl ⟨by rfl,?_⟩) ?_ ?_
  rotate_left
  · intro w'
    go_simp
    with_reducible rfl
  rotate_left
  · simp only [Act.put,List.setIfInBounds_toArray,List.set_cons_zero,List.set_cons_succ,i64_w,i32_w]
    rfl
  refine last_ (i:=15) (N:=none) #[true,true,true,true,true,true,true,true,true,true,true,true,true,true,true,true] rfl rfl (by kernel_rfl) (by decide) (fun K hK => ?_)
  refine skip_ (w1:=?_) (by rfl) rfl ?_ ?_
  rotate_left
  · go_simp
    rfl
  refine hK.out _ _ ?_
  clear hK K
  refine done_ (by kernel_rfl) ?_
  go_wp2
  go_ret
  refine ⟨by rw [HE.out];rfl,?_,HT3.out.trans' (Tn.set ab k _ (.inr ⟨_,rfl,rfl⟩))⟩
  rw [HE2.out]
  exact HL3.out.put k hk _ HUc.out
/-- What Fade leaves. -/
def rFadeI (w : World) (B g : Nat) (A : Option Addr) (n c : Nat) (cf : Cf) (factor : Int) (xs : List Int) (e : Ending) (w' : World) : Prop:=
  e = .returned (.tuple #[]) ∧ RefAt w' B g A n c cf factor (xs.map (fun x => partV x factor)) ∧ Tn w w' (Foot g A)
set_option maxHeartbeats 8000000 in
set_option maxRecDepth 100000 in
theorem rFade_calls (w : World) (B g : Nat) (A : Option Addr) (n c : Nat) (cf : Cf) (factor : Int) (xs : List Int) (h : RefAt w B g A n c cf factor xs) (hn : n ≤ 9223372036854775807) :
    Calls Tryd.prog 37 #[.pointer (some ⟨g,0,none⟩)] w (rFadeI w B g A n c cf factor xs):=by
  have HL:=Aside0.mk h
  have hc0:=h.c9
  have HLn:=Aside0.mk h.len
  clear h
  go_enter Tryd.func37,Tryd.ntmps37
  go_wp2_with fail
  go_loopg [8] n (fun k v8 wr => ∃ (j : Nat),v8 = .int .i64 j ∧ Aside0 (j + k = n) ∧ j ≤ n ∧ Aside0 (RefAt wr B g A n c cf factor (fadeTo factor xs j)) ∧ Aside0 (Tn w wr (Foot g A)))
  case atStart => exact ⟨0,rfl,⟨by omega⟩,by omega,⟨by simpa [fadeTo] using HL.out⟩,⟨Tn.refl _ _⟩⟩
  case round =>
    obtain ⟨j,rfl,HD,hj,HA,HT⟩:=hrel
    cases gk with
    | zero =>
      obtain rfl : j = n:=by have:=HD.out;omega
      go_wp2
      go_end0
      refine ⟨rfl,?_,HT.out⟩
      have h:=HA.out
      rwa [fadeTo,List.take_of_length_le (by rw [HLn.out];exact Nat.le_refl _),List.drop_of_length_le (by rw [HLn.out];exact Nat.le_refl _),List.append_nil] at h
    | succ d =>
      have hlt : j < n:=by have:=HD.out;omega
      have hb1 : decide (j < n) = true:=decide_eq_true hlt
      have hlx : j < xs.length:=by rw [HLn.out];exact hlt
      obtain ⟨ab,rfl,hne⟩:=ref_form HA.out (by omega)
      obtain ⟨ys,hys⟩ : ∃ ys,ys = fadeTo factor xs j:=⟨_,rfl⟩
      have HY:=Aside0.mk (show rd ys (j : Int) = xs[j] by rw [hys];exact fade_rd hlx)
      have HS:=Aside0.mk (show ys.set j (partV (rd ys (j : Int)) factor) = fadeTo factor xs (j + 1) by rw [HY.out,hys];exact fade_step hlx)
      have HA' : Aside0 (RefAt wr B g (some ⟨ab,0,none⟩) n c cf factor ys):=⟨by rw [hys];exact HA.out⟩
      have HU:=Aside0.mk (show U (rd ys (j : Int)) from rdU HA'.out.val (j : Int))
      have HUp:=Aside0.mk (partU HU.out HA'.out.fac)
      have HLd:=Aside0.mk (show RefAt wr.drew B g (some ⟨ab,0,none⟩) n c cf factor ys from HA'.out.gb (gb_drew wr none))
      have HTd:=Aside0.mk (HT.out.trans' (Tn.drew wr (Foot g (some ⟨ab,0,none⟩))))
      have HCh:=Aside0.mk (rfade_calls wr.drew (rd ys (j : Int)) factor HU.out HA'.out.fac)
      have hk1 : (j : Int) < (n : Int):=by omega
      have hk0 : (0 : Int) ≤ (j : Int):=by omega
      clear hys HA HA' HT hne
      go_wp2_with fail
      refine start_ (n:=19) (S:=fun w' => w'.cell? ⟨g,9,none⟩ = some (.slice (some ⟨ab,0,none⟩) n c) ∧ w'.cell? ⟨g,8,none⟩ = some (.int .u64 factor) ∧ w'.cell? ⟨ab,j,none⟩ = some (.int .u64 (rd ys (j : Int)))) (ds:=[18]) #[false,false,false,false,false,false,false,false,false,false,false,false,false,false,false,false,false,false,false] (by kernel_rfl) rfl rfl ⟨HLd.out.c9,HLd.out.c8,ref_cell HLd.out j hlt⟩ (fun hHeld => ?_)
      refine pure_ (i:=0) (N:=some 11) (v:=?_) (a':=?_) #[true,false,false,false,false,false,false,false,false,false,false,false,false,false,false,false,false,false,false] rfl rfl (by kernel_rfl) (fun _ _ _ h => h) (Or.inl ⟨by rfl,?_⟩) ?_ ?_
      rotate_left
      · intro w'
        go_simp
        with_reducible rfl
      rotate_left
      · simp only [Act.put,List.setIfInBounds_toArray,List.set_cons_zero,List.set_cons_succ,i64_w,i32_w]
        rfl
      refine pure_ (i:=1) (N:=some 12) (v:=?_) (a':=?_) #[true,true,false,false,false,false,false,false,false,false,false,false,false,false,false,false,false,false,false] rfl rfl (by kernel_rfl) (fun _ _ _ h => h) (Or.inl ⟨by rfl,?_⟩) ?_ ?_
      rotate_left
      · intro w'
        go_simp
        with_reducible rfl
      rotate_left
      · simp only [Act.put,List.setIfInBounds_toArray,List.set_cons_zero,List.set_cons_succ,i64_w,i32_w]
        rfl
      refine pure_ (i:=2) (N:=some 13) (v:=?_) (a':=?_) #[true,true,true,false,false,false,false,false,false,false,false,false,false,false,false,false,false,false,false] rfl rfl (by kernel_rfl) (fun _ _ _ h => h) (Or.inl ⟨by rfl,?_⟩) ?_ ?_
      rotate_left
      · intro w'
        go_simp
        with_reducible rfl
      rotate_left
      · simp only [Act.put,List.setIfInBounds_toArray,List.set_cons_zero,List.set_cons_succ,i64_w,i32_w]
        rfl
      refine pure_ (i:=4) (N:=some 15) (v:=?_) (a':=?_) #[true,true,true,false,true,false,false,false,false,false,false,false,false,false,false,false,false,false,false] rfl rfl (by kernel_rfl) (fun _ _ _ h => h) (Or.inl ⟨by rfl,?_⟩) ?_ ?_
      rotate_left
      · intro w'
        go_simp
        with_reducible rfl
      rotate_left
      · simp only [Act.put,List.setIfInBounds_toArray,List.set_cons_zero,List.set_cons_succ,i64_w,i32_w]
        rfl
      refine pure_ (i:=5) (N:=some 16) (v:=?_) (a':=?_) #[true,true,true,false,true,true,false,false,false,false,false,false,false,false,false,false,false,false,false] rfl rfl (by kernel_rfl) (fun _ _ _ h => h) (Or.inl ⟨by rfl,?_⟩) ?_ ?_
      rotate_left
      · intro w'
        go_simp
        with_reducible rfl
      rotate_left
      · simp only [Act.put,List.setIfInBounds_toArray,List.set_cons_zero,List.set_cons_succ,i64_w,i32_w]
        rfl
      refine pure_ (i:=6) (N:=some 17) (v:=?_) (a':=?_) #[true,true,true,false,true,true,true,false,false,false,false,false,false,false,false,false,false,false,false] rfl rfl (by kernel_rfl) (fun _ _ _ h => h) (Or.inl ⟨by rfl,?_⟩) ?_ ?_
      rotate_left
      · intro w'
        go_simp
        with_reducible rfl
      rotate_left
      · simp only [Act.put,List.setIfInBounds_toArray,List.set_cons_zero,List.set_cons_succ,i64_w,i32_w]
        rfl
      refine pure_ (i:=7) (N:=some 18) (v:=?_) (a':=?_) #[true,true,true,false,true,true,true,true,false,false,false,false,false,false,false,false,false,false,false] rfl rfl (by kernel_rfl) (fun _ _ _ h => h) (Or.inl ⟨by rfl,?_⟩) ?_ ?_
      rotate_left
      · intro w'
        go_simp
        with_reducible rfl
      rotate_left
      · simp only [Act.put,List.setIfInBounds_toArray,List.set_cons_zero,List.set_cons_succ,i64_w,i32_w]
        rfl
      refine pure_ (i:=9) (N:=some 20) (v:=?_) (a':=?_) #[true,true,true,false,true,true,true,true,false,true,false,false,false,false,false,false,false,false,false] rfl rfl (by kernel_rfl) (fun _ _ _ h => h) (Or.inl ⟨by rfl,?_⟩) ?_ ?_
      rotate_left
      · intro w'
        go_simp
        with_reducible rfl
      rotate_left
      · simp only [Act.put,List.setIfInBounds_toArray,List.set_cons_zero,List.set_cons_succ,i64_w,i32_w]
        rfl
      refine pure_ (i:=12) (N:=some 23) (v:=?_) (a':=?_) #[true,true,true,false,true,true,true,true,false,true,false,false,true,false,false,false,false,false,false] rfl rfl (by kernel_rfl) (fun _ _ _ h => h) (Or.inl ⟨by rfl,?_⟩) ?_ ?_
      rotate_left
      · intro w'
        go_simp
        with_reducible rfl
      rotate_left
      · simp only [Act.put,List.setIfInBounds_toArray,List.set_cons_zero,List.set_cons_succ,i64_w,i32_w]
        rfl
      refine pure_ (i:=13) (N:=some 24) (v:=?_) (a':=?_) #[true,true,true,false,true,true,true,true,false,true,false,false,true,true,false,false,false,false,false] rfl rfl (by kernel_rfl) (fun _ _ _ h => h) (Or.inl ⟨by rfl,?_⟩) ?_ ?_
      rotate_left
      · intro w'
        go_simp
        with_reducible rfl
      rotate_left
      · simp only [Act.put,List.setIfInBounds_toArray,List.set_cons_zero,List.set_cons_succ,i64_w,i32_w]
        rfl
      refine pure_ (i:=14) (N:=some 25) (v:=?_) (a':=?_) #[true,true,true,false,true,true,true,true,false,true,false,false,true,true,true,false,false,false,false] rfl rfl (by kernel_rfl) (fun _ _ _ h => h) (Or.inl ⟨by rfl,?_⟩) ?_ ?_
      rotate_left
      · intro w'
        go_simp
        with_reducible rfl
      rotate_left
      · simp only [Act.put,List.setIfInBounds_toArray,List.set_cons_zero,List.set_cons_succ,i64_w,i32_w]
        rfl
      refine take_ (i:=3) (N:=some 14) (v:=?_) (a':=?_) #[true,true,true,true,true,true,true,true,false,true,false,false,true,true,true,false,false,false,false] rfl rfl (by kernel_rfl) (fun _ _ _ h => h) (Or.inl ⟨by rfl,?_⟩) hHeld ?_ ?_
      rotate_left
      · rintro w' ⟨s0,s1,s2⟩
        go_simp
        with_reducible rfl
      rotate_left
      · simp only [Act.put,List.setIfInBounds_toArray,List.set_cons_zero,List.set_cons_succ,i64_w,i32_w]
        rfl
      refine take_ (i:=8) (N:=some 19) (v:=?_) (a':=?_) #[true,true,true,true,true,true,true,true,true,true,false,false,true,true,true,false,false,false,false] rfl rfl (by kernel_rfl) (fun _ _ _ h => h) (Or.inl ⟨by rfl,?_⟩) hHeld ?_ ?_
      rotate_left
      · rintro w' ⟨s0,s1,s2⟩
        go_simp
        with_reducible rfl
      rotate_left
      · simp only [Act.put,List.setIfInBounds_toArray,List.set_cons_zero,List.set_cons_succ,i64_w,i32_w]
        rfl
      refine pure_ (i:=10) (N:=some 21) (v:=?_) (a':=?_) #[true,true,true,true,true,true,true,true,true,true,true,false,true,true,true,false,false,false,false] rfl rfl (by kernel_rfl) (fun _ _ _ h => h) (Or.inl ⟨by rfl,?_⟩) ?_ ?_
      rotate_left
      · intro w'
        go_simp
        with_reducible rfl
      rotate_left
      · simp only [Act.put,List.setIfInBounds_toArray,List.set_cons_zero,List.set_cons_succ,i64_w,i32_w]
        rfl
      refine take_ (i:=11) (N:=some 22) (v:=?_) (a':=?_) #[true,true,true,true,true,true,true,true,true,true,true,true,true,true,true,false,false,false,false] rfl rfl (by kernel_rfl) (fun _ _ _ h => h) (Or.inl ⟨by rfl,?_⟩) hHeld ?_ ?_
      rotate_left
      · rintro w' ⟨s0,s1,s2⟩
        go_simp
        with_reducible rfl
      rotate_left
      · simp only [Act.put,List.setIfInBounds_toArray,List.set_cons_zero,List.set_cons_succ,i64_w,i32_w]
        rfl
      refine take_ (i:=15) (N:=some 26) (v:=?_) (a':=?_) #[true,true,true,true,true,true,true,true,true,true,true,true,true,true,true,true,false,false,false] rfl rfl (by kernel_rfl) (fun _ _ _ h => h) (Or.inl ⟨by rfl,?_⟩) hHeld ?_ ?_
      rotate_left
      · rintro w' ⟨s0,s1,s2⟩
        go_simp
        with_reducible rfl
      rotate_left
      · simp only [Act.put,List.setIfInBounds_toArray,List.set_cons_zero,List.set_cons_succ,i64_w,i32_w]
        rfl
      refine one_ (i:=16) (N:=some 27) #[true,true,true,true,true,true,true,true,true,true,true,true,true,true,true,true,true,false,false] rfl rfl (by kernel_rfl) (by decide) (fun K hK => ?_)
      refine goes_ Tryd.func61 (by kernel_rfl) rfl #[.int .u64 (rd ys (j : Int)),.int .u64 factor] (by rfl) rfl rfl (by simp only [List.map_toArray,List.map_cons,List.map_nil];try rfl) ?_
      with_reducible refine (HCh.out).mono ?_
      rintro e w3 ⟨rfl,hb⟩
      refine ⟨_,rfl,?_⟩
      have HL3:=Aside0.mk (HLd.out.gb (gb_of_below hb none));have HT3:=Aside0.mk (HTd.out.trans' (Tn.of_below hb (Foot g (some ⟨ab,0,none⟩))));have hf3:=own_frozen HL3.out.own (j : Nat);clear hb HLd HTd HCh
      refine hK.out _ _ ⟨HL3.out.c9,HL3.out.c8,ref_cell HL3.out j hlt⟩ (fun hHeld => ?_)
      clear hK K
      refine norm_ (a':=?_) ?_ ?_
      rotate_left
      · show Act.put _ (some 27) _ = _
        simp only [Act.put,List.setIfInBounds_toArray,List.set_cons_zero,List.set_cons_succ,i64_w,i32_w]
        rfl
      refine pure_ (i:=17) (N:=some 28) (v:=?_) (a':=?_) #[true,true,true,true,true,true,true,true,true,true,true,true,true,true,true,true,true,true,false] rfl rfl (by kernel_rfl) (fun _ _ _ h => h) (Or.inl ⟨by rfl,?_⟩) ?_ ?_
      rotate_left
      · intro w'
        go_simp
        with_reducible rfl
      rotate_left
      · simp only [Act.put,List.setIfInBounds_toArray,List.set_cons_zero,List.set_cons_succ,i64_w,i32_w]
        rfl
      refine last_ (i:=18) (N:=none) #[true,true,true,true,true,true,true,true,true,true,true,true,true,true,true,true,true,true,true] rfl rfl (by kernel_rfl) (by decide) (fun K hK => ?_)
      refine skip_ (w1:=?_) (by rfl) rfl ?_ ?_
      rotate_left
      · go_simp
        rfl
      refine hK.out _ _ ?_
      clear hK K
      refine done_ (by kernel_rfl) ?_
      go_wp2
      go_roundg d
      case measure => omega
      case rel =>
        refine ⟨j + 1,by go_num,⟨by have:=HD.out;omega⟩,by omega,⟨?_⟩,⟨HT3.out.trans' (Tn.set ab j _ (.inr ⟨_,rfl,rfl⟩))⟩⟩
        rw [← HS.out]
        exact HL3.out.put j hlt _ HUp.out
end Go.Proofs.YtgjjfnjnjnbfgaaDoor.L
namespace Go.Proofs.YtgjjfnjnjnbfgaaDoor.L
open Go.RowKit Go.Proofs.YtgjjfnjnjnbfgaaDoorW.PrintWords Go.Proofs.YtgjjfnjnjnbfgaaDoorW.PrintLast Go.Proofs.YtgjjfnjnjnbfgaaDoor.H Go.Proofs.YtgjjfnjnjnbfgaaDoor.Q Go.Proofs.YtgjjfnjnjnbfgaaDoor.GLG
set_option linter.unusedVariables false
set_option linter.unusedSimpArgs false
/-- What Clone answers: a ledger alike,of a row and a block of its own. -/
def rCloneI (w : World) (n : Nat) (cf : Cf) (factor : Int) (xs : List Int) (e : Ending) (w' : World) : Prop:=
  ∃ g A c,e = .returned (.pointer (some ⟨g,0,none⟩)) ∧ RefAt w' w.heap.size g A n c cf factor xs ∧ w.grownBy w' none
set_option maxHeartbeats 8000000 in
set_option maxRecDepth 100000 in
theorem rClone_calls (w : World) (B g : Nat) (A : Option Addr) (n c : Nat) (cf : Cf) (factor : Int) (xs : List Int) (h : RefAt w B g A n c cf factor xs) (hs : n * 8 ≤ 140737488355328) :
    Calls Tryd.prog 14 #[.pointer (some ⟨g,0,none⟩)] w (rCloneI w n cf factor xs):=by
  obtain ⟨a0,a1,a2,a3,a4,a5,a6,a7⟩:=cf
  have HL:=Aside0.mk h
  have HLn:=Aside0.mk h.len
  have HLd:=Aside0.mk (h.gb (gb_drew w none))
  have HGd:=Aside0.mk (gb_drew w none)
  have HC:=Aside0.mk (rList_calls w.drew g A n c xs HLd.out.c9 HLd.out.rd hs)
  clear h
  go_enter Tryd.func14,Tryd.ntmps14
  go_wp2_with fail
  refine start_ (n:=13) (S:=fun w' => w'.cell? ⟨g,0,none⟩ = some (.int .i64 a0) ∧ w'.cell? ⟨g,1,none⟩ = some (.int .i64 a1) ∧ w'.cell? ⟨g,2,none⟩ = some (.int .i64 a2) ∧ w'.cell? ⟨g,3,none⟩ = some (.int .i64 a3) ∧ w'.cell? ⟨g,4,none⟩ = some (.int .i64 a4) ∧ w'.cell? ⟨g,5,none⟩ = some (.int .i64 a5) ∧ w'.cell? ⟨g,6,none⟩ = some (.int .i64 a6) ∧ w'.cell? ⟨g,7,none⟩ = some (.int .i64 a7) ∧ w'.cell? ⟨g,8,none⟩ = some (.int .u64 factor)) (ds:=[]) #[false,false,false,false,false,false,false,false,false,false,false,false,false] (by kernel_rfl) rfl rfl ⟨cell_of HLd.out.blk rfl,cell_of HLd.out.blk rfl,cell_of HLd.out.blk rfl,cell_of HLd.out.blk rfl,cell_of HLd.out.blk rfl,cell_of HLd.out.blk rfl,cell_of HLd.out.blk rfl,cell_of HLd.out.blk rfl,cell_of HLd.out.blk rfl⟩ (fun hHeld => ?_)
  refine pure_ (i:=0) (N:=some 3) (v:=?_) (a':=?_) #[true,false,false,false,false,false,false,false,false,false,false,false,false] rfl rfl (by kernel_rfl) (fun _ _ _ h => h) (Or.inl ⟨by rfl,?_⟩) ?_ ?_
  rotate_left
  · intro w'
    go_simp
    with_reducible rfl
  rotate_left
  · simp only [Act.put,List.setIfInBounds_toArray,List.set_cons_zero,List.set_cons_succ,i64_w,i32_w]
    rfl
  refine pure_ (i:=1) (N:=some 4) (v:=?_) (a':=?_) #[true,true,false,false,false,false,false,false,false,false,false,false,false] rfl rfl (by kernel_rfl) (fun _ _ _ h => h) (Or.inl ⟨by rfl,?_⟩) ?_ ?_
  rotate_left
  · intro w'
    go_simp
    with_reducible rfl
  rotate_left
  · simp only [Act.put,List.setIfInBounds_toArray,List.set_cons_zero,List.set_cons_succ,i64_w,i32_w]
    rfl
  refine pure_ (i:=2) (N:=some 5) (v:=?_) (a':=?_) #[true,true,true,false,false,false,false,false,false,false,false,false,false] rfl rfl (by kernel_rfl) (fun _ _ _ h => h) (Or.inl ⟨by rfl,?_⟩) ?_ ?_
  rotate_left
  · intro w'
    go_simp
    with_reducible rfl
  rotate_left
  · simp only [Act.put,List.setIfInBounds_toArray,List.set_cons_zero,List.set_cons_succ,i64_w,i32_w]
    rfl
  refine pure_ (i:=4) (N:=some 7) (v:=?_) (a':=?_) #[true,true,true,false,true,false,false,false,false,false,false,false,false] rfl rfl (by kernel_rfl) (fun _ _ _ h => h) (Or.inl ⟨by rfl,?_⟩) ?_ ?_
  rotate_left
  · intro w'
    go_simp
    with_reducible rfl
  rotate_left
  · simp only [Act.put,List.setIfInBounds_toArray,List.set_cons_zero,List.set_cons_succ,i64_w,i32_w]
    rfl
  refine pure_ (i:=5) (N:=some 8) (v:=?_) (a':=?_) #[true,true,true,false,true,true,false,false,false,false,false,false,false] rfl rfl (by kernel_rfl) (fun _ _ _ h => h) (Or.inl ⟨by rfl,?_⟩) ?_ ?_
  rotate_left
  · intro w'
    go_simp
    with_reducible rfl
  rotate_left
  · simp only [Act.put,List.setIfInBounds_toArray,List.set_cons_zero,List.set_cons_succ,i64_w,i32_w]
    rfl
  refine pure_ (i:=6) (N:=some 9) (v:=?_) (a':=?_) #[true,true,true,false,true,true,true,false,false,false,false,false,false] rfl rfl (by kernel_rfl) (fun _ _ _ h => h) (Or.inl ⟨by rfl,?_⟩) ?_ ?_
  rotate_left
  · intro w'
    go_simp
    with_reducible rfl
  rotate_left
  · simp only [Act.put,List.setIfInBounds_toArray,List.set_cons_zero,List.set_cons_succ,i64_w,i32_w]
    rfl
  refine pure_ (i:=8) (N:=some 11) (v:=?_) (a':=?_) #[true,true,true,false,true,true,true,false,true,false,false,false,false] rfl rfl (by kernel_rfl) (fun _ _ _ h => h) (Or.inl ⟨by rfl,?_⟩) ?_ ?_
  rotate_left
  · intro w'
    go_simp
    with_reducible rfl
  rotate_left
  · simp only [Act.put,List.setIfInBounds_toArray,List.set_cons_zero,List.set_cons_succ,i64_w,i32_w]
    rfl
  refine take_ (i:=3) (N:=some 6) (v:=?_) (a':=?_) #[true,true,true,true,true,true,true,false,true,false,false,false,false] rfl rfl (by kernel_rfl) (fun _ _ _ h => h) (Or.inl ⟨by rfl,?_⟩) hHeld ?_ ?_
  rotate_left
  · rintro w' ⟨s0,s1,s2,s3,s4,s5,s6,s7,s8⟩
    go_simp
    with_reducible rfl
  rotate_left
  · simp only [Act.put,List.setIfInBounds_toArray,List.set_cons_zero,List.set_cons_succ,i64_w,i32_w]
    rfl
  refine take_ (i:=7) (N:=some 10) (v:=?_) (a':=?_) #[true,true,true,true,true,true,true,true,true,false,false,false,false] rfl rfl (by kernel_rfl) (fun _ _ _ h => h) (Or.inl ⟨by rfl,?_⟩) hHeld ?_ ?_
  rotate_left
  · rintro w' ⟨s0,s1,s2,s3,s4,s5,s6,s7,s8⟩
    go_simp
    with_reducible rfl
  rotate_left
  · simp only [Act.put,List.setIfInBounds_toArray,List.set_cons_zero,List.set_cons_succ,i64_w,i32_w]
    rfl
  refine one_ (i:=9) (N:=some 12) #[true,true,true,true,true,true,true,true,true,true,false,false,false] rfl rfl (by kernel_rfl) (by decide) (fun K hK => ?_)
  refine goes_ Tryd.func34 (by kernel_rfl) rfl #[.pointer (some ⟨g,0,none⟩)] (by rfl) rfl rfl (by simp only [List.map_toArray,List.map_cons,List.map_nil];try rfl) ?_
  with_reducible refine (HC.out).mono ?_
  rintro e w3 ⟨v3,rfl,ho,hg⟩
  rw [HLn.out] at ho
  obtain ⟨A3,c3,rfl,-,-,-⟩:=own_open HLn.out ho
  refine ⟨_,rfl,?_⟩
  have HO3:=Aside0.mk ho;have HG3:=Aside0.mk (World.grownBy.trans HGd.out hg);have HL3:=Aside0.mk (HLd.out.gb hg);clear ho hg HC HGd HLd
  refine hK.out _ _ ⟨cell_of HL3.out.blk rfl,cell_of HL3.out.blk rfl,cell_of HL3.out.blk rfl,cell_of HL3.out.blk rfl,cell_of HL3.out.blk rfl,cell_of HL3.out.blk rfl,cell_of HL3.out.blk rfl,cell_of HL3.out.blk rfl,cell_of HL3.out.blk rfl⟩ (fun hHeld => ?_)
  clear hK K
  refine norm_ (a':=?_) ?_ ?_
  rotate_left
  · show Act.put _ (some 12) _ = _
    simp only [Act.put,List.setIfInBounds_toArray,List.set_cons_zero,List.set_cons_succ,i64_w,i32_w]
    rfl
  refine pure_ (i:=10) (N:=some 13) (v:=?_) (a':=?_) #[true,true,true,true,true,true,true,true,true,true,true,false,false] rfl rfl (by kernel_rfl) (fun _ _ _ h => h) (Or.inl ⟨by rfl,?_⟩) ?_ ?_
  rotate_left
  · intro w'
    go_simp
    with_reducible rfl
  rotate_left
  · simp only [Act.put,List.setIfInBounds_toArray,List.set_cons_zero,List.set_cons_succ,i64_w,i32_w]
    rfl
  refine one_ (i:=11) (N:=some 14) #[true,true,true,true,true,true,true,true,true,true,true,true,false] rfl rfl (by kernel_rfl) (by decide) (fun K hK => ?_)
  refine value_ (w1:=?_) (v:=?_) (by rfl) rfl ?_ ?_
  rotate_left 2
  · go_simp
    constructor
    · rfl
    · rfl
  have HB7:=Aside0.mk (heap_alloc_new w3 (.cells #[.int .i64 a0,.int .i64 a1,.int .i64 a2,.int .i64 a3,.int .i64 a4,.int .i64 a5,.int .i64 a6,.int .i64 a7,.int .u64 factor,.slice A3 n c3] 73));have HO7:=Aside0.mk (own_kept HO3.out (World.grownBy_alloc w3 (.cells #[.int .i64 a0,.int .i64 a1,.int .i64 a2,.int .i64 a3,.int .i64 a4,.int .i64 a5,.int .i64 a6,.int .i64 a7,.int .u64 factor,.slice A3 n c3] 73) none) (by simp));have HG7:=Aside0.mk (World.grownBy.trans HG3.out (World.grownBy_alloc w3 (.cells #[.int .i64 a0,.int .i64 a1,.int .i64 a2,.int .i64 a3,.int .i64 a4,.int .i64 a5,.int .i64 a6,.int .i64 a7,.int .u64 factor,.slice A3 n c3] 73) none));have HL7:=Aside0.mk (HL3.out.gb (World.grownBy_alloc w3 (.cells #[.int .i64 a0,.int .i64 a1,.int .i64 a2,.int .i64 a3,.int .i64 a4,.int .i64 a5,.int .i64 a6,.int .i64 a7,.int .u64 factor,.slice A3 n c3] 73) none));have HN7:=Aside0.mk (a_below HO3.out (Nat.le_refl _));have HS7:=Aside0.mk HG3.out.size;clear HO3 HG3 HL3
  refine hK.out _ _ ⟨cell_of HL7.out.blk rfl,cell_of HL7.out.blk rfl,cell_of HL7.out.blk rfl,cell_of HL7.out.blk rfl,cell_of HL7.out.blk rfl,cell_of HL7.out.blk rfl,cell_of HL7.out.blk rfl,cell_of HL7.out.blk rfl,cell_of HL7.out.blk rfl⟩ (fun hHeld => ?_)
  clear hK K
  refine norm_ (a':=?_) ?_ ?_
  rotate_left
  · show Act.put _ (some 14) _ = _
    simp only [Act.put,List.setIfInBounds_toArray,List.set_cons_zero,List.set_cons_succ,i64_w,i32_w]
    rfl
  refine pure_ (i:=12) (N:=some 2) (v:=?_) (a':=?_) #[true,true,true,true,true,true,true,true,true,true,true,true,true] rfl rfl (by kernel_rfl) (fun _ _ _ h => h) (Or.inl ⟨by rfl,?_⟩) ?_ ?_
  rotate_left
  · intro w'
    go_simp
    with_reducible rfl
  rotate_left
  · simp only [Act.put,List.setIfInBounds_toArray,List.set_cons_zero,List.set_cons_succ,i64_w,i32_w]
    rfl
  refine done_ (by kernel_rfl) ?_
  go_wp2
  go_ret
  exact ⟨_,_,_,rfl,⟨HB7.out,own_mono HO7.out (by simp),HLn.out,HN7.out,by have:=HS7.out;simpa using this,HL.out.val,HL.out.fac,HL.out.nod⟩,HG7.out⟩
set_option maxHeartbeats 8000000 in
set_option maxRecDepth 100000 in
theorem rNew_bad (w : World) (a0 a1 a2 a3 a4 a5 a6 a7 : Int) (A : Option Addr) (n c : Nat) (h : checkV a0 a1 a2 a3 a4 a5 a6 a7 ≠ 0) :
    Calls Tryd.prog 10 #[.agg #[.int .i64 a0,.int .i64 a1,.int .i64 a2,.int .i64 a3,.int .i64 a4,.int .i64 a5,.int .i64 a6,.int .i64 a7],.slice A n c] w fun e w' => e = .returned (.tuple #[.pointer none,.int .i64 (checkV a0 a1 a2 a3 a4 a5 a6 a7)]) ∧ w.grownBy w' none:=by
  obtain ⟨r,hr⟩ : ∃ r,r = checkV a0 a1 a2 a3 a4 a5 a6 a7:=⟨_,rfl⟩
  rw [← hr] at h ⊢
  have HC:=Aside0.mk (rcheck_calls (w.alloc (.cells #[.int .i64 a0,.int .i64 a1,.int .i64 a2,.int .i64 a3,.int .i64 a4,.int .i64 a5,.int .i64 a6,.int .i64 a7] 23)) a0 a1 a2 a3 a4 a5 a6 a7)
  rw [← hr] at HC
  have hb1 : (r == 0) = false:=by simpa using h
  have hb2 : (r != 0) = true:=by simpa using h
  clear hr h
  go_enter Tryd.func10,Tryd.ntmps10
  go_wp2_with fail
  refine (HC.out).mono ?_
  rintro e w2 ⟨rfl,hb⟩
  have HG:=Aside0.mk (World.grownBy.trans (World.grownBy_alloc w (.cells #[.int .i64 a0,.int .i64 a1,.int .i64 a2,.int .i64 a3,.int .i64 a4,.int .i64 a5,.int .i64 a6,.int .i64 a7] 23) none) (gb_of_below hb none))
  clear hb
  go_wp2_with fail
  go_ret2
  exact ⟨rfl,HG.out⟩
set_option maxHeartbeats 8000000 in
set_option maxRecDepth 100000 in
theorem rNew_many (w : World) (a0 a1 a2 a3 a4 a5 a6 a7 : Int) (A : Option Addr) (n c : Nat) (h : checkV a0 a1 a2 a3 a4 a5 a6 a7 = 0) (hn : 64 < n) :
    Calls Tryd.prog 10 #[.agg #[.int .i64 a0,.int .i64 a1,.int .i64 a2,.int .i64 a3,.int .i64 a4,.int .i64 a5,.int .i64 a6,.int .i64 a7],.slice A n c] w fun e w' => e = .returned (.tuple #[.pointer none,.int .i64 1]) ∧ w.grownBy w' none:=by
  have HC:=Aside0.mk (rcheck_calls (w.alloc (.cells #[.int .i64 a0,.int .i64 a1,.int .i64 a2,.int .i64 a3,.int .i64 a4,.int .i64 a5,.int .i64 a6,.int .i64 a7] 23)) a0 a1 a2 a3 a4 a5 a6 a7)
  rw [h] at HC
  have hb1 : decide ((64 : Int) < (n : Int)) = true:=decide_eq_true (by omega)
  have hb2 : decide (64 < n) = true:=decide_eq_true hn
  clear h
  go_enter Tryd.func10,Tryd.ntmps10
  go_wp2_with fail
  refine (HC.out).mono ?_
  rintro e w2 ⟨rfl,hb⟩
  have HG:=Aside0.mk (World.grownBy.trans (World.grownBy_alloc w (.cells #[.int .i64 a0,.int .i64 a1,.int .i64 a2,.int .i64 a3,.int .i64 a4,.int .i64 a5,.int .i64 a6,.int .i64 a7] 23) none) (gb_of_below hb none))
  clear hb
  go_wp2_with fail
  go_ret2
  exact ⟨rfl,HG.out⟩
/-- A new ledger is answered,of a row and a block of its own. -/
def rNewLed (w : World) (cf : Cf) (factor : Int) (n : Nat) (xs : List Int) (e : Ending) (w' : World) : Prop:=
  ∃ g A c,e = .returned (.tuple #[.pointer (some ⟨g,0,none⟩),.int .i64 0]) ∧ RefAt w' w.heap.size g A n c cf factor xs ∧ w.grownBy w' none
set_option maxHeartbeats 8000000 in
set_option maxRecDepth 100000 in
theorem rNew_ok (w : World) (a0 a1 a2 a3 a4 a5 a6 a7 : Int) (A : Option Addr) (n c : Nat) (xs : List Int) (h : checkV a0 a1 a2 a3 a4 a5 a6 a7 = 0) (hn : n ≤ 64) (hr : Rd (Ei .u64) w A n xs) (hv : ∀ x ∈ xs,U x) (hp0 : 0 ≤ a0) (hp1 : a0 ≤ 9223372036854775807) (hf : U (factV a6 a7).1) :
    Calls Tryd.prog 10 #[.agg #[.int .i64 a0,.int .i64 a1,.int .i64 a2,.int .i64 a3,.int .i64 a4,.int .i64 a5,.int .i64 a6,.int .i64 a7],.slice A n c] w (rNewLed w ⟨a0,a1,a2,a3,a4,a5,a6,a7⟩ (factV a6 a7).1 n xs):=by
  have HC0:=Aside0.mk (rcheck_calls (w.alloc (.cells #[.int .i64 a0,.int .i64 a1,.int .i64 a2,.int .i64 a3,.int .i64 a4,.int .i64 a5,.int .i64 a6,.int .i64 a7] 23)) a0 a1 a2 a3 a4 a5 a6 a7)
  rw [h] at HC0
  have HB0:=Aside0.mk (heap_alloc_new w (.cells #[.int .i64 a0,.int .i64 a1,.int .i64 a2,.int .i64 a3,.int .i64 a4,.int .i64 a5,.int .i64 a6,.int .i64 a7] 23))
  have HG0:=Aside0.mk (World.grownBy_alloc w (.cells #[.int .i64 a0,.int .i64 a1,.int .i64 a2,.int .i64 a3,.int .i64 a4,.int .i64 a5,.int .i64 a6,.int .i64 a7] 23) none)
  have HR0:=Aside0.mk hr
  have HLn:=Aside0.mk hr.1
  have HV:=Aside0.mk hv
  have HF:=Aside0.mk hf
  have hb1 : decide ((64 : Int) < (n : Int)) = false:=decide_eq_false (by omega)
  have hb2 : decide (64 < n) = false:=decide_eq_false (by omega)
  clear h hr hv hf
  go_enter Tryd.func10,Tryd.ntmps10
  go_wp2_with fail
  refine (HC0.out).mono ?_
  rintro e w1 ⟨rfl,hb⟩
  have HB1:=Aside0.mk (blk_kept HB0.out (gb_of_below hb none) (by simp))
  have HG1:=Aside0.mk (World.grownBy.trans HG0.out (gb_of_below hb none))
  clear hb HB0 HG0 HC0
  have hx6 : w1.cell? ⟨w.heap.size,6,none⟩ = some (.int .i64 a6):=cell_of HB1.out rfl
  have hx7 : w1.cell? ⟨w.heap.size,7,none⟩ = some (.int .i64 a7):=cell_of HB1.out rfl
  go_wp2_with fail
  refine (rfactor_calls w1 a6 a7).mono ?_
  rintro e w2 ⟨rfl,hb⟩
  have HB2:=Aside0.mk (blk_kept HB1.out (gb_of_below hb none) (by simp))
  have HG2:=Aside0.mk (World.grownBy.trans HG1.out (gb_of_below hb none))
  clear hb HB1 HG1 hx6 hx7
  have hy0 : w2.cell? ⟨w.heap.size,0,none⟩ = some (.int .i64 a0):=cell_of HB2.out rfl
  have hy1 : w2.cell? ⟨w.heap.size,1,none⟩ = some (.int .i64 a1):=cell_of HB2.out rfl
  have hy2 : w2.cell? ⟨w.heap.size,2,none⟩ = some (.int .i64 a2):=cell_of HB2.out rfl
  have hy3 : w2.cell? ⟨w.heap.size,3,none⟩ = some (.int .i64 a3):=cell_of HB2.out rfl
  have hy4 : w2.cell? ⟨w.heap.size,4,none⟩ = some (.int .i64 a4):=cell_of HB2.out rfl
  have hy5 : w2.cell? ⟨w.heap.size,5,none⟩ = some (.int .i64 a5):=cell_of HB2.out rfl
  have hy6 : w2.cell? ⟨w.heap.size,6,none⟩ = some (.int .i64 a6):=cell_of HB2.out rfl
  have hy7 : w2.cell? ⟨w.heap.size,7,none⟩ = some (.int .i64 a7):=cell_of HB2.out rfl
  obtain ⟨fc,hfc⟩ : ∃ q,q = (factV a6 a7).1:=⟨_,rfl⟩
  have HFC:=Aside0.mk hfc
  rw [← hfc]
  have hsz : w.heap.size < w2.heap.size:=blk_lt' HB2.out
  have HG3:=Aside0.mk (World.grownBy.trans HG2.out (World.grownBy_alloc w2 (.cells #[.int .i64 a0,.int .i64 a1,.int .i64 a2,.int .i64 a3,.int .i64 a4,.int .i64 a5,.int .i64 a6,.int .i64 a7,.int .u64 fc,.slice none 0 0] 73) none))
  have HB3:=Aside0.mk (heap_alloc_new w2 (.cells #[.int .i64 a0,.int .i64 a1,.int .i64 a2,.int .i64 a3,.int .i64 a4,.int .i64 a5,.int .i64 a6,.int .i64 a7,.int .u64 fc,.slice none 0 0] 73))
  have HR3:=Aside0.mk (HR0.out.gb HG3.out)
  have HN0:=Aside0.mk (show (w2.alloc (.cells #[.int .i64 a0,.int .i64 a1,.int .i64 a2,.int .i64 a3,.int .i64 a4,.int .i64 a5,.int .i64 a6,.int .i64 a7,.int .u64 fc,.slice none 0 0] 73)).ownsRow (w2.heap.size + 1) 28 (Ei .u64).sz (.slice none 0 0) 0 (flat (Ei .u64) []) from own_nil _ _ _ _)
  clear hfc HR0 HB2
  go_wp2_with (at_builtin;refine app (Ei .u64) (w2.heap.size + 1) rfl (.tmp 34) (.tmp 35) 24 28 (.int .u64 0) 8 rfl Tryd.underlying24 (by kernel_rfl) rfl (by decide) (.slice none 0 0) 0 [] xs _ n _ rfl rfl rfl HN0.out HR3.out (by simp) (by omega) ?_;intro v4 w4 ho hg hn;rw [List.nil_append,Nat.zero_add] at ho;obtain ⟨A3,c3,rfl,-,-,ha⟩:=own_open HLn.out ho;have HO4:=Aside0.mk ho;have HG4:=Aside0.mk (World.grownBy.trans HG3.out hg);have HA4:=Aside0.mk ha;have HB4:=Aside0.mk (blk_kept HB3.out hg (by simp [Value.ownBlock]));have hk3:=cell_of (j:=9) (v:=.slice none 0 0) HB4.out rfl;have hf3:=frozen_of (j:=9) HB4.out;clear ho hg hn ha HG3 HB3 HN0)
  go_ret2
  obtain rfl:=HFC.out
  have hng : ∀ ad,A3 = some ad → ad.block ≠ w2.heap.size:=fun ad ha => by have:=HA4.out ad ha;omega
  refine ⟨w2.heap.size,A3,c3,rfl,⟨?_,?_,HLn.out,hng,by omega,HV.out,HF.out,hp0,hp1⟩,gb_new HG4.out (gb_setCell w4 w2.heap.size 9 _) (by omega)⟩
  · have:=blk_set 9 (.slice A3 n c3) HB4.out
    simpa [refC] using this
  · exact own_tn (own_mono HO4.out (by omega)) (Tn.set w2.heap.size 9 _ (F:=fun k => k = w2.heap.size) rfl) (fun k hk he => by cases A3 with | none => simp [Value.ownBlock] at hk | some ad => exact hng ad rfl (by simp [Value.ownBlock] at hk;omega))
end Go.Proofs.YtgjjfnjnjnbfgaaDoor.L
namespace Go.Proofs.YtgjjfnjnjnbfgaaDoor.L
open Go.RowKit Go.Proofs.YtgjjfnjnjnbfgaaDoorW.PrintWords Go.Proofs.YtgjjfnjnjnbfgaaDoorW.PrintLast Go.Proofs.YtgjjfnjnjnbfgaaDoor.H Go.Proofs.YtgjjfnjnjnbfgaaDoor.Q Go.Proofs.YtgjjfnjnjnbfgaaDoor.GLG
set_option linter.unusedVariables false
set_option linter.unusedSimpArgs false
set_option maxHeartbeats 8000000 in
set_option maxRecDepth 100000 in
theorem shown_calls (w : World) (hL : LaidW w) :
    Calls Tryd.prog 8 #[] w fun e w' => e = .returned (.bool true) ∧ Below w.heap.size w w':=by
  have f1 : checkV 4 8 10 1 0 0 100 100 = 0:=by decide +kernel
  have f2 : factV 100 100 = (4611686018427387904,0):=by decide +kernel
  have c1 : chargeC 4 2 1 3 = 0:=by decide +kernel
  have l1 : chargeL 4 2 [0,0] 1 3 = [0,12884901888]:=by decide +kernel
  have c2 : chargeC 4 2 1 4 = 0:=by decide +kernel
  have l2 : chargeL 4 2 [0,12884901888] 1 4 = [0,30064771072]:=by decide +kernel
  have c3 : chargeC 4 2 2 1 = 120:=by decide +kernel
  have l3 : chargeL 4 2 [0,30064771072] 2 1 = [0,30064771072]:=by decide +kernel
  have o1 : ownV [0,30064771072] 1 = 30064771072:=by decide +kernel
  have fd : [0,30064771072].map (fun x => partV x 4611686018427387904) = [0,15032385536]:=by decide +kernel
  have o2 : ownV [0,15032385536] 1 = 15032385536:=by decide +kernel
  have s1 : sumV [0,15032385536] [0,1,1] = 30064771072:=by decide +kernel
  have F1:=Aside0.mk f1
  have F2:=Aside0.mk f2
  have C1:=Aside0.mk c1
  have L1:=Aside0.mk l1
  have C2:=Aside0.mk c2
  have L2:=Aside0.mk l2
  have C3:=Aside0.mk c3
  have L3:=Aside0.mk l3
  have O1:=Aside0.mk o1
  have FD:=Aside0.mk fd
  have O2:=Aside0.mk o2
  have S1:=Aside0.mk s1
  have HL:=Aside0.mk hL
  clear f1 f2 c1 l1 c2 l2 c3 l3 o1 fd o2 s1 hL
  go_enter Tryd.func8,Tryd.ntmps8
  go_wp2_with fail
  refine (backfilllaw12_plain.calls 4 8 10 1 0 0 100 100 w rfl).mono ?_
  rintro e w1 ⟨rfl,hb⟩
  have HB1:=Aside0.mk hb
  clear hb
  have HN:=New_ok w1 (laid_below HL.out HB1.out) 4 8 10 1 0 0 100 100 none 0 0 [] F1.out (by omega) (Rd.nil _ _ _) (by simp) (by omega) (by omega) (by rw [F2.out];exact ⟨by decide,by decide⟩)
  rw [F2.out] at HN
  have HN:=Aside0.mk HN
  go_wp2_with fail
  refine (HN.out).mono ?_
  rintro e w2 ⟨g,A,c,rfl,hl,hg⟩
  have HL2:=Aside0.mk hl
  have HB2:=Aside0.mk (HB1.out.trans ((below_of_gb hg).mono HB1.out.size))
  have hsz : w.heap.size ≤ w1.heap.size:=HB1.out.size
  clear hl hg HN HB1
  go_wp2_with fail
  refine (Open_calls w2 _ g A 0 c _ _ _ HL2.out (by omega)).mono ?_
  rintro e w3 ⟨A3,c3,rfl,hl,ht,-⟩
  have HL3:=Aside0.mk hl
  have HB3:=Aside0.mk (HB2.out.trans (ht.below HB2.out.size (fun i hi => Nat.le_trans hsz (HL2.out.foot i hi).1)))
  clear hl ht HL2 HB2
  go_wp2_with fail
  refine (Open_calls w3 _ g A3 (0 + 1) c3 _ _ _ HL3.out (by omega)).mono ?_
  rintro e w4 ⟨A4,c4,rfl,hl,ht,-⟩
  have HL4:=Aside0.mk (show LedAt w4 w1.heap.size g A4 2 c4 4 4611686018427387904 [0,0] from hl)
  have HB4:=Aside0.mk (HB3.out.trans (ht.below HB3.out.size (fun i hi => Nat.le_trans hsz (HL3.out.foot i hi).1)))
  clear hl ht HL3 HB3
  go_wp2_with fail
  refine (Charge_calls w4 _ g A4 2 c4 _ _ _ 1 3 HL4.out (by omega)).mono ?_
  rintro e w5 ⟨rfl,hl,ht⟩
  rw [L1.out] at hl
  rw [C1.out]
  have HL5:=Aside0.mk hl
  have HB5:=Aside0.mk (HB4.out.trans (ht.below HB4.out.size (fun i hi => Nat.le_trans hsz (HL4.out.foot i hi).1)))
  clear hl ht HL4 HB4
  go_wp2_with fail
  refine (Charge_calls w5 _ g A4 2 c4 _ _ _ 1 4 HL5.out (by omega)).mono ?_
  rintro e w6 ⟨rfl,hl,ht⟩
  rw [L2.out] at hl
  rw [C2.out]
  have HL6:=Aside0.mk hl
  have HB6:=Aside0.mk (HB5.out.trans (ht.below HB5.out.size (fun i hi => Nat.le_trans hsz (HL5.out.foot i hi).1)))
  clear hl ht HL5 HB5
  go_wp2_with fail
  refine (Charge_calls w6 _ g A4 2 c4 _ _ _ 2 1 HL6.out (by omega)).mono ?_
  rintro e w7 ⟨rfl,hl,ht⟩
  rw [L3.out] at hl
  rw [C3.out]
  have HL7:=Aside0.mk hl
  have HB7:=Aside0.mk (HB6.out.trans (ht.below HB6.out.size (fun i hi => Nat.le_trans hsz (HL6.out.foot i hi).1)))
  clear hl ht HL6 HB6
  go_wp2_with fail
  refine (Own_calls w7 g A4 2 c4 _ 1 HL7.out.c0 HL7.out.rd).mono ?_
  rintro e w8 ⟨rfl,rfl⟩
  rw [O1.out]
  go_wp2_with fail
  refine (Fade_calls w7 _ g A4 2 c4 _ _ _ HL7.out (by omega)).mono ?_
  rintro e w8 ⟨rfl,hl,ht⟩
  rw [FD.out] at hl
  have HL8:=Aside0.mk hl
  have HB8:=Aside0.mk (HB7.out.trans (ht.below HB7.out.size (fun i hi => Nat.le_trans hsz (HL7.out.foot i hi).1)))
  clear hl ht HL7 HB7
  go_wp2_with fail
  refine (Own_calls w8 g A4 2 c4 _ 1 HL8.out.c0 HL8.out.rd).mono ?_
  rintro e w9 ⟨rfl,rfl⟩
  rw [O2.out]
  have HL8a:=Aside0.mk (HL8.out.gb (World.grownBy_alloc w8 (.cells #[.int .i64 0,.int .i64 1,.int .i64 1] 3) none))
  have HR8:=Aside0.mk (show Rd (Ei .i64) (w8.alloc (.cells #[.int .i64 0,.int .i64 1,.int .i64 1] 3)) (some ⟨w8.heap.size,0,none⟩) 3 [0,1,1] from rd_lit (Ei .i64) w8 3 [0,1,1] (by simp))
  have HB8a:=Aside0.mk (Below.alloc HB8.out HB8.out.size (.cells #[.int .i64 0,.int .i64 1,.int .i64 1] 3))
  clear HL8 HB8
  go_wp2_with fail
  refine (Sum_calls _ _ g A4 2 c4 _ _ _ _ 3 3 _ HL8a.out HR8.out).mono ?_
  rintro e w9 ⟨rfl,hg⟩
  rw [S1.out]
  have HL9:=Aside0.mk (HL8a.out.gb hg)
  have HB9:=Aside0.mk (below_gb HB8a.out hg HB8a.out.size (by simp))
  clear hg HL8a HB8a HR8
  go_wp2_with fail
  refine (Clone_calls w9 _ g A4 2 c4 _ _ _ HL9.out (by omega)).mono ?_
  rintro e w10 ⟨g10,A10,c10,rfl,-,hg⟩
  have HL10:=Aside0.mk (HL9.out.gb hg)
  have HB10:=Aside0.mk (below_gb HB9.out hg HB9.out.size (by simp))
  clear hg HL9 HB9
  go_wp2_with fail
  refine (List_calls w10 _ g A4 2 c4 _ _ _ HL10.out (by omega)).mono ?_
  rintro e w11 ⟨v,rfl,ho,hg⟩
  obtain ⟨A11,c11,rfl,-,-,-⟩:=own_open rfl ho
  have HB11:=Aside0.mk (below_gb HB10.out hg HB10.out.size (by simp))
  clear ho hg HL10 HB10
  go_wp2
  go_ret
  exact ⟨rfl,HB11.out⟩
end Go.Proofs.YtgjjfnjnjnbfgaaDoor.L
namespace Go.Proofs.YtgjjfnjnjnbfgaaDoor.GLG
open Go.RowKit Go.Proofs.YtgjjfnjnjnbfgaaDoorW.PrintWords Go.Proofs.YtgjjfnjnjnbfgaaDoorW.PrintLast Go.Proofs.YtgjjfnjnjnbfgaaDoorW.PrintMore
attribute [local go_sem] max2_int min2_int max_two min_two max_three min_three max_four min_four   -- for this text's walks alone
set_option linter.unusedVariables false
set_option linter.unusedSimpArgs false
def slices_Index_int_int.l0 : Nat → List Int → Int → Int → Int → Option (Int)
 | 0,_,_,_,_ => none
 | k + 1,x0,x1,x7,x8 => if x8 < x7 then (if 0 ≤ x8 then (if x8 < (x0.length : Int) then (if x1 = (rd x0 x8) then (some x8) else (slices_Index_int_int.l0 k x0 x1 x7 (wrap64 (x8 + 1)))) else (none)) else (none)) else (some (-1))
def slices_Index_int_int.f (k : Nat) (l0 : List Int) (a1 : Int) : Option (Int):=slices_Index_int_int.l0 k l0 a1 (l0.length : Int) 0
theorem slices_Index_int_int.mono_l : ∀ k,(∀ y0 y1 y2 y3,LeO (slices_Index_int_int.l0 k y0 y1 y2 y3) (slices_Index_int_int.l0 (k + 1) y0 y1 y2 y3))
 | 0 => fun _ _ _ _ r h => by simp [slices_Index_int_int.l0] at h
 | k + 1 => by
  have ih0:=slices_Index_int_int.mono_l k
  ·intro y0 y1 y2 y3
   unfold slices_Index_int_int.l0
   repeat' first
   | (with_reducible exact ih0 _ _ _ _)
   | (with_reducible exact LeO.refl _)
   | (with_reducible exact LeO.none _)
   | (with_reducible refine LeO.ite ?_ ?_)
   | (with_reducible refine LeO.bind ?_ (fun _ => ?_))
   | exact ih0 _ _ _ _
   | exact LeO.none _
   | refine LeO.ite ?_ ?_
   | refine LeO.bind ?_ (fun _ => ?_)
theorem slices_Index_int_int.mono : ∀ a0 a1 k,LeO (slices_Index_int_int.f k a0 a1) (slices_Index_int_int.f (k + 1) a0 a1):=by
 intro a0 a1 k
 have ih0:=slices_Index_int_int.mono_l k
 unfold slices_Index_int_int.f
 repeat' first
   | (with_reducible exact ih0 _ _ _ _)
   | (with_reducible exact LeO.refl _)
   | (with_reducible exact LeO.none _)
   | (with_reducible refine LeO.ite ?_ ?_)
   | (with_reducible refine LeO.bind ?_ (fun _ => ?_))
   | exact ih0 _ _ _ _
   | exact LeO.none _
   | refine LeO.ite ?_ ?_
   | refine LeO.bind ?_ (fun _ => ?_)
def slices_Contains_int_int.f (k : Nat) (l0 : List Int) (a1 : Int) : Option (Bool):=(slices_Index_int_int.f k l0 a1).bind fun t249 => (some (decide (t249 ≥ 0)))
theorem slices_Contains_int_int.mono : ∀ a0 a1 k,LeO (slices_Contains_int_int.f k a0 a1) (slices_Contains_int_int.f (k + 1) a0 a1):=by
 intro a0 a1 k
 unfold slices_Contains_int_int.f
 repeat' first
   | (with_reducible exact slices_Index_int_int.mono _ _ _)
   | (with_reducible exact LeO.refl _)
   | (with_reducible exact LeO.none _)
   | (with_reducible refine LeO.ite ?_ ?_)
   | (with_reducible refine LeO.bind ?_ (fun _ => ?_))
   | exact slices_Index_int_int.mono _ _ _
   | exact LeO.none _
   | refine LeO.ite ?_ ?_
   | refine LeO.bind ?_ (fun _ => ?_)
end Go.Proofs.YtgjjfnjnjnbfgaaDoor.GLG
namespace Go.Proofs.YtgjjfnjnjnbfgaaDoor.Q
open Go.RowKit Go.Proofs.YtgjjfnjnjnbfgaaDoor.GLG Go.Proofs.YtgjjfnjnjnbfgaaDoorW.PrintWords Go.Proofs.YtgjjfnjnjnbfgaaDoorW.PrintLast Go.Proofs.YtgjjfnjnjnbfgaaDoorW.PrintMore
theorem rd_nat {xs : List Int} {i : Nat} (h : i < xs.length) : rd xs (i : Int) = xs[i]:=by
  simp [rd,List.getD_eq_getElem?_getD,List.getElem?_eq_getElem h]
theorem index_l {xs : List Int} (hx : xs.length ≤ 9223372036854775807) (a : Int) : ∀ (d k i : Nat),i + d = xs.length → d < k → ∃ r,slices_Index_int_int.l0 k xs a (xs.length : Int) (i : Int) = some r ∧ decide (r ≥ 0) = decide (a ∈ xs.drop i)
  | 0,k + 1,i,hi,_ => by
    refine ⟨-1,?_,?_⟩
    · simp only [slices_Index_int_int.l0]
      rw [if_neg (by omega)]
    · rw [List.drop_of_length_le (by omega)];rfl
  | d + 1,k + 1,i,hi,hk => by
    have hl : i < xs.length:=by omega
    simp only [slices_Index_int_int.l0]
    rw [if_pos (by omega),if_pos (by omega),if_pos (by omega),rd_nat hl,List.drop_eq_getElem_cons hl]
    by_cases e : a = xs[i]
    · rw [if_pos e]
      refine ⟨_,rfl,?_⟩
      rw [decide_eq_true (by omega),decide_eq_true (by rw [e];exact List.mem_cons_self)]
    · rw [if_neg e,show wrap64 ((i : Int) + 1) = ((i + 1 : Nat) : Int) by rw [wrap64_in (by omega) (by omega)];rfl]
      obtain ⟨r,h1,h2⟩:=index_l hx a d k (i + 1) (by omega) (by omega)
      refine ⟨r,h1,h2.trans ?_⟩
      rw [decide_eq_decide,List.mem_cons]
      exact ⟨.inr,fun h => h.resolve_left e⟩
theorem contains {xs : List Int} (hx : xs.length ≤ 9223372036854775807) (a : Int) (k : Nat) (hk : xs.length < k) : slices_Contains_int_int.f k xs a = some (decide (a ∈ xs)):=by
  obtain ⟨r,h1,h2⟩:=index_l hx a xs.length k 0 (by omega) hk
  unfold slices_Contains_int_int.f slices_Index_int_int.f
  rw [show (0 : Int) = ((0 : Nat) : Int) from rfl,h1]
  simp only [Option.bind_some]
  rw [List.drop_zero] at h2
  exact congrArg some h2
end Go.Proofs.YtgjjfnjnjnbfgaaDoor.Q
namespace Go.Proofs.YtgjjfnjnjnbfgaaDoor.L
open Go.RowKit Go.Proofs.YtgjjfnjnjnbfgaaDoorW.PrintWords Go.Proofs.YtgjjfnjnjnbfgaaDoorW.PrintLast Go.Proofs.YtgjjfnjnjnbfgaaDoor.H Go.Proofs.YtgjjfnjnjnbfgaaDoor.Q Go.Proofs.YtgjjfnjnjnbfgaaDoor.GLG Go.ChangeShapes Go.WideShapes Go.Deep
set_option linter.unusedVariables false
set_option linter.unusedSimpArgs false
section
variable {H : Type} {enc : TypeId × Value → H} {P : Program} {w : World} {base : Nat} {spare : Nat → Bool} {held : Bool}
/-- A slice of structs of one-cell fields,opened to its cells. -/
theorem open_fields {t e : TypeId} {fs : Array Field} {fuel : Nat} {cs : List Value} {x : DataW H × List MemPlace} (ht : P.underlying t = some (.slice e)) (he : P.underlying e = some (.struct fs))
    (hone : oneCellFields P fs = true) (hC : P.cellsOf e = fs.size) (h : DataW.trod enc P w base spare held fuel t cs = some x) :
    (cs = [.slice none 0 0] ∧ x = (.nil,[])) ∨
    ∃ (a : Addr) (len cap m : Nat) (D : Nat → DataW H) (Pl : Nat → List MemPlace),cs = [.slice (some a) len cap] ∧ len ≤ cap ∧ cap ≤ maxLen ∧ len ≤ m ∧
      x = (.slice ((List.range len).map D) ((List.range (m - len)).map fun j => D (len + j)),MemPlace.row a (m * fs.size) ++ (List.range m).flatMap Pl) ∧
      ∀ i,i < m → ∃ n : Nat,∀ (j : Nat) (f : Field),fs[j]? = some f → ∃ (v : Value) (y : DataW H × List MemPlace),w.cell? (a.add (i * fs.size + j)) = some v ∧ DataW.trod enc P w base spare held n f.type [v] = some y:=by
  rcases open_slice ht h with h0 | ⟨a,len,cap,m,n,D,Pl,hcs,hb,hl,hm,hmm,hx,hi⟩
  · exact .inl h0
  · have hml : len ≤ m:=by rw [hmm];split <;> omega
    refine .inr ⟨a,len,cap,m,D,Pl,hcs,hl,hm,hml,by rw [hC] at hx;exact hx,fun i him => ?_⟩
    obtain ⟨cs',hc,ht'⟩:=hi i him
    rw [hC] at hc
    obtain ⟨ys,n',hn',hy,hlen,hyl,hf⟩:=DataW.trod_struct he ht'
    obtain ⟨_,hcl,hat⟩:=World.cells?_some hc
    refine ⟨n',fun j f hj => ?_⟩
    obtain ⟨ho,hk⟩:=hone_of hone j f hj
    have hjl : j < fs.size:=(Array.getElem?_eq_some_iff.1 hj).1
    have hcell:=hat j hjl
    have hv : cs'[j]? = some (cs'[j]'(by omega)):=List.getElem?_eq_getElem (by omega)
    have h1:=hf j f hj
    rw [ho,hk] at h1
    have hone' : (cs'.drop j).take 1 = [cs'[j]'(by omega)]:=by
      rw [List.drop_eq_getElem_cons (by omega)]
      rfl
    rw [hone'] at h1
    have hys : ys[j]? = some (ys[j]'(by omega)):=List.getElem?_eq_getElem (by omega)
    refine ⟨_,_,?_,h1.trans hys⟩
    rw [← Go.Deep.add_add,hcell,hv]
end
end Go.Proofs.YtgjjfnjnjnbfgaaDoor.L
namespace Go.Proofs.YtgjjfnjnjnbfgaaDoor.Q
open Go.RowKit Go.Proofs.YtgjjfnjnjnbfgaaDoor.GLG Go.Proofs.YtgjjfnjnjnbfgaaDoorW.PrintWords Go.Proofs.YtgjjfnjnjnbfgaaDoorW.PrintLast Go.Proofs.YtgjjfnjnjnbfgaaDoorW.PrintMore
theorem chk_cfg {N Q L A F S P H : Int} (c : checkV N Q L A F S P H = 0) : Cfg N Q L A F S P H:=by
  unfold checkV at c
  by_cases d : inR N Q L A F S P H = true
  · exact inR_cfg d
  · rw [if_neg d] at c
    omega
theorem factU (P H : Int) : U (factV P H).1:=by
  unfold factV
  split
  · exact ⟨by decide,by decide⟩
  · have:=HH_le (expV P H).toNat
    refine ⟨?_,?_⟩
    · show (0 : Int) ≤ ((HH (expV P H).toNat : Nat) : Int)
      omega
    · show ((HH (expV P H).toNat : Nat) : Int) < 18446744073709551616
      omega
theorem fact_ok {N Q L A F S P H : Int} (c : Cfg N Q L A F S P H) : (factV P H).2 = 0:=by
  unfold factV
  rw [if_neg (by have:=c.p0;have:=c.p1;have:=c.h0;have:=c.h1;omega)]
/-- A place among n. -/
def amongV (i n : Int) : Int:=if n < 1 then 0 else if Int.tmod i n < 0 then Int.tmod i n + n else Int.tmod i n
theorem tmod_bd (i n : Int) (h : 1 ≤ n) : -n < Int.tmod i n ∧ Int.tmod i n < n:=by
  rcases Int.le_total 0 i with h0 | h0
  · rw [Int.tmod_eq_emod_of_nonneg h0]
    have h1:=Int.emod_nonneg i (b:=n) (by omega)
    have h2:=Int.emod_lt_of_pos i (b:=n) (by omega)
    omega
  · obtain ⟨a,rfl⟩ : ∃ a,i = -a:=⟨-i,by omega⟩
    rw [Int.neg_tmod,Int.tmod_eq_emod_of_nonneg (a:=a) (by omega)]
    have h1:=Int.emod_nonneg a (b:=n) (by omega)
    have h2:=Int.emod_lt_of_pos a (b:=n) (by omega)
    omega
theorem among_bd (i n : Int) (h : 1 ≤ n) : 0 ≤ amongV i n ∧ amongV i n < n:=by
  have:=tmod_bd i n h
  unfold amongV
  rw [if_neg (by omega)]
  split <;> omega
theorem among {i n : Int} (hn : n ≤ 9223372036854775807) : backfilllaw12_among.f i n = some (amongV i n):=by
  unfold backfilllaw12_among.f amongV
  by_cases h : n < 1
  · rw [if_pos h,if_pos h]
  · have:=tmod_bd i n (by omega)
    rw [if_neg h,if_neg h,if_neg (by omega)]
    by_cases c : Int.tmod i n < 0
    · rw [if_pos c,if_pos c,wrap64_in (by omega) (by omega)]
    · rw [if_neg c,if_neg c]
theorem usages_l {xs ys : List Int} (hx : xs.length ≤ 9223372036854775807) (hl : ys.length = xs.length) : ∀ (d i : Nat),i + d = xs.length → backfilllaw12_usages.l0 (d + 1) xs ys (xs.length : Int) (i : Int) = some (decide (xs.drop i = ys.drop i))
  | 0,i,h => by
    rw [backfilllaw12_usages.l0,if_neg (by omega),List.drop_of_length_le (by omega),List.drop_of_length_le (by omega)]
    rfl
  | d + 1,i,h => by
    have h1 : i < xs.length:=by omega
    have h2 : i < ys.length:=by omega
    have e1 : rd xs (i : Int) = xs[i]:=by simp [rd,List.getD_eq_getElem?_getD,List.getElem?_eq_getElem h1]
    have e2 : rd ys (i : Int) = ys[i]:=by simp [rd,List.getD_eq_getElem?_getD,List.getElem?_eq_getElem h2]
    rw [backfilllaw12_usages.l0,if_pos (by omega),if_pos (by omega),if_pos (by omega),if_pos (by omega),e1,e2,List.drop_eq_getElem_cons h1,List.drop_eq_getElem_cons h2]
    by_cases c : xs[i] = ys[i]
    · rw [if_pos c,show wrap64 ((i : Int) + 1) = ((i + 1 : Nat) : Int) by rw [wrap64_in (by omega) (by omega)];rfl,usages_l hx hl d (i + 1) (by omega)]
      congr 1
      rw [decide_eq_decide,List.cons.injEq]
      exact ⟨fun h => ⟨c,h⟩,fun h => h.2⟩
    · rw [if_neg c]
      congr 1
      rw [eq_comm,decide_eq_false_iff_not,List.cons.injEq]
      exact fun h => c h.1
theorem usages {xs ys : List Int} (hx : xs.length ≤ 9223372036854775807) : backfilllaw12_usages.f (xs.length + 1) xs ys = some (decide (xs = ys)):=by
  unfold backfilllaw12_usages.f
  by_cases c : (xs.length : Int) = (ys.length : Int)
  · rw [if_pos c]
    have:=usages_l hx (by omega : ys.length = xs.length) xs.length 0 (by omega)
    rwa [List.drop_zero,List.drop_zero] at this
  · rw [if_neg c]
    congr 1
    rw [eq_comm,decide_eq_false_iff_not]
    intro h
    rw [h] at c
    exact c rfl
end Go.Proofs.YtgjjfnjnjnbfgaaDoor.Q
namespace Go.Proofs.YtgjjfnjnjnbfgaaDoor.L
open Go.RowKit Go.Proofs.YtgjjfnjnjnbfgaaDoorW.PrintWords Go.Proofs.YtgjjfnjnjnbfgaaDoorW.PrintLast Go.Proofs.YtgjjfnjnjnbfgaaDoor.H Go.Proofs.YtgjjfnjnjnbfgaaDoor.Q Go.Proofs.YtgjjfnjnjnbfgaaDoor.GLG Go.ChangeShapes Go.WideShapes Go.Deep
set_option linter.unusedVariables false
set_option linter.unusedSimpArgs false
/-- An act: its kind,which ledger,an account,nodes. -/
def Ea : Enc (Int × Int × Int × Int):=⟨4,fun x => [.int .i64 x.1,.int .i64 x.2.1,.int .i64 x.2.2.1,.int .i64 x.2.2.2],fun _ => rfl,fun x v hv => by simp at hv;rcases hv with rfl | rfl | rfl | rfl <;> rfl,by decide⟩
theorem add_off (a : Addr) (k i : Nat) (h : 0 < i) : a.add (k + i) = ⟨(a.add k).block,(a.add k).off + i,none⟩:=by
  rw [← H.add_add]
  cases i with
  | zero => omega
  | succ i => rfl
theorem act_at {w : World} {A : Option Addr} {n : Nat} {xs : List (Int × Int × Int × Int)} (h : Rd Ea w A n xs) (j : Nat) (hj : j < n) :
    ∃ ad x,A = some ad ∧ xs[j]? = some x ∧ w.cell? (ad.add (j * 4)) = some (.int .i64 x.1) ∧ w.cell? ⟨(ad.add (j * 4)).block,(ad.add (j * 4)).off + 1,none⟩ = some (.int .i64 x.2.1) ∧
      w.cell? ⟨(ad.add (j * 4)).block,(ad.add (j * 4)).off + 2,none⟩ = some (.int .i64 x.2.2.1) ∧ w.cell? ⟨(ad.add (j * 4)).block,(ad.add (j * 4)).off + 3,none⟩ = some (.int .i64 x.2.2.2):=by
  obtain ⟨ad,x,e,hx,hc⟩:=h.at_ j hj
  refine ⟨ad,x,e,hx,hc 0 _ rfl,?_,?_,?_⟩
  · rw [← add_off _ _ 1 (by omega)];exact hc 1 _ rfl
  · rw [← add_off _ _ 2 (by omega)];exact hc 2 _ rfl
  · rw [← add_off _ _ 3 (by omega)];exact hc 3 _ rfl
theorem open_acts {H : Type} {enc : TypeId × Value → H} {W : World} {base : Nat} {spare : Nat → Bool} {held : Bool} {a : Option Addr} {len cap : Nat} {d : DataW H} {ps : List MemPlace} {ts : List TypeId} {ds : List (DataW H)} {j : Nat}
    (hsz : (DataW.weightsEach Tryd.prog ts ds).all (· ≤ reachBytes) = true) (ht : ts[j]? = some 25) (hd : ds[j]? = some d) (h : DataW.Trod enc Tryd.prog W base spare held 25 (.slice a len cap) d ps) :
    ∃ ls,Rd Ea W a len ls ∧ len ≤ cap ∧ len * 32 ≤ 140737488351232:=by
  obtain ⟨fuel,hf⟩:=h
  have hf1 : DataW.trod enc Tryd.prog W base spare held fuel 25 [.slice a len cap] = some (d,ps):=by simpa [Value.cells] using hf
  rcases open_fields Tryd.underlying25 Tryd.underlying40 (by kernel_rfl) (by kernel_rfl) hf1 with ⟨hcs,_⟩ | ⟨x,l,c,m,D,Pl,hcs,hl,hm,hml,hx,hi⟩
  · simp at hcs
    obtain ⟨rfl,rfl,rfl⟩:=hcs
    exact ⟨[],Rd.nil _ _ _,Nat.le_refl _,by omega⟩
  · simp at hcs
    obtain ⟨rfl,rfl,rfl⟩:=hcs
    have hv : ∀ i,∃ q : Int × Int × Int × Int,i < m → ∀ k v,(Ea.enc q)[k]? = some v → W.cell? (x.add (i * 4 + k)) = some v:=fun i => by
      by_cases him : i < m
      · obtain ⟨n,hf⟩:=hi i him
        obtain ⟨v0,y0,c0,t0⟩:=hf 0 _ rfl
        obtain ⟨v1,y1,c1,t1⟩:=hf 1 _ rfl
        obtain ⟨v2,y2,c2,t2⟩:=hf 2 _ rfl
        obtain ⟨v3,y3,c3,t3⟩:=hf 3 _ rfl
        obtain ⟨b0,e0,_,_⟩:=DataW.trod_int Tryd.underlying3 t0
        obtain ⟨b1,e1,_,_⟩:=DataW.trod_int Tryd.underlying3 t1
        obtain ⟨b2,e2,_,_⟩:=DataW.trod_int Tryd.underlying3 t2
        obtain ⟨b3,e3,_,_⟩:=DataW.trod_int Tryd.underlying3 t3
        simp at e0 e1 e2 e3
        subst e0 e1 e2 e3
        refine ⟨(b0,b1,b2,b3),fun _ k v hk => ?_⟩
        have hk4 : k < 4:=by have:=(List.getElem?_eq_some_iff.1 hk).1;simpa [Ea] using this
        have : k = 0 ∨ k = 1 ∨ k = 2 ∨ k = 3:=by omega
        rcases this with rfl | rfl | rfl | rfl <;> (simp [Ea] at hk;subst hk;assumption)
      · exact ⟨(0,0,0,0),fun h => absurd h him⟩
    let f : Nat → Int × Int × Int × Int:=fun i => Classical.choose (hv i)
    have hf':=fun i => Classical.choose_spec (hv i)
    refine ⟨(List.range len).map f,⟨by simp,by simp only [maxLen] at hm;omega,fun _ => ⟨x,rfl,fun i v hiv => ?_⟩⟩,hl,?_⟩
    · have hi4 : i < len * 4:=by
        have:=(List.getElem?_eq_some_iff.1 hiv).1
        rw [flat_len] at this
        simpa [Ea] using this
      obtain ⟨q,hq⟩ : ∃ q,q = i / 4:=⟨_,rfl⟩
      obtain ⟨r,hr⟩ : ∃ r,r = i % 4:=⟨_,rfl⟩
      have ei : i = q * 4 + r:=by omega
      have hq1 : q < len:=by omega
      have hat : ((List.range len).map f)[q]? = some (f q):=by simp [hq1]
      have e:=flat_at Ea _ q r (f q) hat (by show r < 4;omega)
      rw [ei] at hiv
      have h2 : (Ea.enc (f q))[r]? = some v:=e.symm.trans hiv
      rw [ei]
      exact hf' q (by omega) r v h2
    · obtain ⟨hx,_⟩:=Prod.mk.inj hx
      subst hx
      have z:=sized_slice hsz ht hd Tryd.underlying25
      rw [show Tryd.prog.bytesOf 40 = 32 by kernel_rfl] at z
      simp only [List.length_map,List.length_range] at z
      exact Nat.le_trans (Nat.mul_le_mul_right _ (by omega)) z
set_option maxHeartbeats 8000000 in
set_option maxRecDepth 100000 in
theorem among_calls (w : World) (i n : Int) (hn : n ≤ 9223372036854775807) : Calls Tryd.prog 12 #[.int .i64 i,.int .i64 n] w fun e w' => e = .returned (.int .i64 (amongV i n)) ∧ w = w':=by
  by_cases h : n < 1
  · have HE:=Aside0.mk (show amongV i n = 0 by unfold amongV;rw [if_pos h])
    have hb : decide (n < 1) = true:=decide_eq_true h
    go_enter Tryd.func12,Tryd.ntmps12
    go_wp2
    go_ret
    exact ⟨by rw [HE.out];rfl,rfl⟩
  · have hb : decide (n < 1) = false:=decide_eq_false h
    have ht:=tmod_bd i n (by omega)
    have HT:=Aside0.mk ht
    have hn0 : (n == 0) = false:=by simp;omega
    have hn1 : ¬ n = 0:=by omega
    by_cases c : Int.tmod i n < 0
    · have HE:=Aside0.mk (show amongV i n = wrap64 (Int.tmod i n + n) by unfold amongV;rw [if_neg h,if_pos c,wrap64_in (by omega) (by omega)])
      have hc : decide (Int.tmod i n < 0) = true:=decide_eq_true c
      clear h ht
      go_enter Tryd.func12,Tryd.ntmps12
      go_wp2
      go_ret
      exact ⟨by rw [HE.out];rfl,rfl⟩
    · have HE:=Aside0.mk (show amongV i n = Int.tmod i n by unfold amongV;rw [if_neg h,if_neg c])
      have hc : decide (Int.tmod i n < 0) = false:=decide_eq_false c
      clear h ht
      go_enter Tryd.func12,Tryd.ntmps12
      go_wp2
      go_ret
      exact ⟨by rw [HE.out];rfl,rfl⟩
end Go.Proofs.YtgjjfnjnjnbfgaaDoor.L
namespace Go.Proofs.YtgjjfnjnjnbfgaaDoor.L
open Go.RowKit Go.Proofs.YtgjjfnjnjnbfgaaDoorW.PrintWords Go.Proofs.YtgjjfnjnjnbfgaaDoorW.PrintLast Go.Proofs.YtgjjfnjnjnbfgaaDoor.H Go.Proofs.YtgjjfnjnjnbfgaaDoor.Q Go.Proofs.YtgjjfnjnjnbfgaaDoor.GLG
set_option linter.unusedVariables false
set_option linter.unusedSimpArgs false
theorem c_of_rd {k : IntKind} {w : World} {A : Option Addr} {n : Nat} {xs : List Int} (h : Rd (Ei k) w A n xs) : Kd.C (Kd.int k) w A n xs:=
  Kd.C_of_reads (d:=0) ⟨h.1,h.2.1,fun hn => by
    obtain ⟨ad,e,hc⟩:=h.2.2 hn
    refine ⟨ad,e,fun j hj => ?_⟩
    obtain ⟨ad',e',hc'⟩:=Rd.int h j hj
    rw [e] at e';cases e'
    simpa [rd] using hc'⟩
theorem usages_calls (w : World) (A B : Option Addr) (n c d : Nat) (xs ys : List Int) (hx : Rd (Ei .u64) w A n xs) (hy : Rd (Ei .u64) w B n ys) (hc : n ≤ c) (hd : n ≤ d) :
    Calls Tryd.prog 11 #[.slice A n c,.slice B n d] w fun e w' => e = .returned (.bool (decide (xs = ys))) ∧ w.grownBy w' none:=by
  have e1:=hx.1
  have e2:=hy.1
  have h:=backfilllaw12_usages.calls (xs.length + 1) A c xs B d ys _ w (by rw [e1];exact c_of_rd hx) (by omega) (by rw [e2];exact c_of_rd hy) (by omega) (usages (by have:=hx.2.1;omega))
  rw [e1,e2] at h
  exact h.mono fun e w' ⟨h1,h2⟩ => ⟨h1,gb_of_below h2.below none⟩
section
variable {s0 : Nat} {w0 w w1 : World} {gc ga gq go : Nat} {Aa Ab Ao : Option Addr} {Ba Bb Bo ca cb co : Nat} {nodes factor : Int} {xa xb xo xs : List Int}
end
end Go.Proofs.YtgjjfnjnjnbfgaaDoor.L
namespace Go.Proofs.YtgjjfnjnjnbfgaaDoor.L
open Go.RowKit Go.Proofs.YtgjjfnjnjnbfgaaDoorW.PrintWords Go.Proofs.YtgjjfnjnjnbfgaaDoorW.PrintLast Go.Proofs.YtgjjfnjnjnbfgaaDoor.H Go.Proofs.YtgjjfnjnjnbfgaaDoor.Q Go.Proofs.YtgjjfnjnjnbfgaaDoor.GLG
set_option linter.unusedVariables false
set_option linter.unusedSimpArgs false
def nines (xs : List Int) (j : Nat) : List Int:=List.replicate j 99 ++ xs.drop j
theorem nines_at {xs : List Int} {j : Nat} (h : j < xs.length) : (nines xs j)[j]? = some (rd xs (j : Int)):=by
  unfold nines
  rw [List.getElem?_append_right (by simp),List.length_replicate,Nat.sub_self,List.getElem?_drop,Nat.add_zero,List.getElem?_eq_getElem h]
  simp [rd,List.getD_eq_getElem?_getD,List.getElem?_eq_getElem h]
theorem nines_set {xs : List Int} {j : Nat} (h : j < xs.length) : (nines xs j).set j 99 = nines xs (j + 1):=by
  unfold nines
  rw [List.set_append_right _ _ (by simp),List.length_replicate,Nat.sub_self,List.drop_eq_getElem_cons h,List.set_cons_zero,List.replicate_succ',List.append_assoc]
  rfl
theorem nines_all (xs : List Int) : nines xs xs.length = List.replicate xs.length 99:=by unfold nines;simp
theorem gb_own2 {w w1 w2 : World} {row : Option Nat} {e sz n : Nat} {v : Value} {xs : List Value} {b : Nat} (h : w.grownBy w1 row) (ho : w1.ownsRow b e sz v n xs) (hg : w1.grownBy w2 v.ownBlock) (hb : w.heap.size ≤ b) : w.grownBy w2 row:=by
  cases hv : v.ownBlock with
  | none => rw [hv] at hg;exact World.grownBy.trans h (gb_any hg row)
  | some g => rw [hv] at hg;exact gb_new h hg (by have:=(ho.lt g hv).1;omega)
set_option maxHeartbeats 8000000 in
set_option maxRecDepth 100000 in
theorem same_calls (w : World) (B g : Nat) (A : Option Addr) (n c : Nat) (nodes factor : Int) (xs : List Int) (B2 h : Nat) (D : Option Addr) (d : Nat) (cf : Cf) (fac2 : Int) (hL : LedAt w B g A n c nodes factor xs) (hR : RefAt w B2 h D n d cf fac2 xs) (hn : n ≤ 200) :
    Calls Tryd.prog 16 #[.pointer (some ⟨g,0,none⟩),.pointer (some ⟨h,0,none⟩)] w fun e w' => e = .returned (.bool true) ∧ w.grownBy w' none:=by
  have HL:=Aside0.mk hL
  have HR:=Aside0.mk hR
  have HLn:=Aside0.mk hL.len
  have HO1:=Aside0.mk (show ownV xs (-1) = 0 by unfold ownV;rw [if_neg (by omega)])
  have HO2:=Aside0.mk (show ownV xs (n : Int) = 0 by unfold ownV;rw [if_pos (by omega)];simp [rd,List.getD_eq_getElem?_getD,List.getElem?_eq_none (show xs.length ≤ n by rw [HLn.out];exact Nat.le_refl _)])
  clear hL hR
  go_enter Tryd.func16,Tryd.ntmps16
  go_wp2_with fail
  refine (List_calls w B g A n c nodes factor xs HL.out (by omega)).mono ?_
  rintro e w1 ⟨v1,rfl,ho,hg⟩
  rw [HLn.out] at ho
  obtain ⟨Au,cu,rfl,hru,hcu,-⟩:=own_open HLn.out ho
  have HU1:=Aside0.mk ho
  have HRu:=Aside0.mk hru
  have HG1:=Aside0.mk hg
  have HL1:=Aside0.mk (HL.out.gb hg)
  have HR1:=Aside0.mk (HR.out.gb hg)
  clear ho hg hru
  go_wp2_with fail
  refine (rList_calls w1 h D n d xs HR1.out.c9 HR1.out.rd (by omega)).mono ?_
  rintro e w2 ⟨v2,rfl,ho,hg⟩
  rw [HLn.out] at ho
  obtain ⟨Av,cv,rfl,hrv,hcv,-⟩:=own_open HLn.out ho
  have HU2:=Aside0.mk (own_kept HU1.out hg (by simp))
  have HG2:=Aside0.mk (World.grownBy.trans HG1.out hg)
  have HL2:=Aside0.mk (HL1.out.gb hg)
  have HUs:=Aside0.mk (usages_calls w2 Au Av n cu cv xs xs (HRu.out.gb hg) hrv hcu hcv)
  rw [decide_eq_true (rfl : xs = xs)] at HUs
  clear ho hg hrv HU1 HRu HL1 HR1 HG1
  go_wp2_with fail
  refine (HUs.out).mono ?_
  rintro e w3 ⟨rfl,hg⟩
  have HU3:=Aside0.mk (own_kept HU2.out hg (by simp))
  have HG3:=Aside0.mk (World.grownBy.trans HG2.out hg)
  have HL3:=Aside0.mk (HL2.out.gb hg)
  clear hg HU2 HL2 HG2 HUs
  go_wp2_with fail
  refine (Own_calls w3 g A n c xs (-1) HL3.out.c0 HL3.out.rd).mono ?_
  rintro e w4 ⟨rfl,rfl⟩
  rw [HO1.out]
  go_wp2_with fail
  refine (Own_calls w3 g A n c xs (n : Int) HL3.out.c0 HL3.out.rd).mono ?_
  rintro e w4 ⟨rfl,rfl⟩
  rw [HO2.out]
  go_wp2_with fail
  go_loopg [34] n (fun k v34 wr => ∃ j : Nat,v34 = .int .i64 j ∧ Aside0 (j + k = n) ∧ j ≤ n ∧ Aside0 (wr.ownsRow w.heap.size 28 (Ei .u64).sz (.slice Au n cu) n (flat (Ei .u64) (nines xs j))) ∧ Aside0 (w.grownBy wr none) ∧ Aside0 (LedAt wr B g A n c nodes factor xs))
  case atStart => exact ⟨0,rfl,⟨by omega⟩,by omega,⟨by simpa [nines] using HU3.out⟩,HG3,HL3⟩
  case round =>
    obtain ⟨j,rfl,HD,hj,HU,HG,HLj⟩:=hrel
    cases gk with
    | zero =>
      obtain rfl : j = n:=by have:=HD.out;omega
      obtain ⟨w5,rfl⟩ : ∃ w5,w5 = wr:=⟨wr,rfl⟩
      have hb1 : decide ((j : Int) < j) = false:=decide_eq_false (by omega)
      have e9 : nines xs j = List.replicate j 99:=by have:=nines_all xs;rw [HLn.out] at this;exact this
      have HUz:=Aside0.mk (own_kept (e9 ▸ HU.out) (World.grownBy_alloc w5 (.cells #[.int .u64 99,.int .u64 99] 28) none) (by simp))
      have HR2:=Aside0.mk (show Rd (Ei .u64) (w5.alloc (.cells #[.int .u64 99,.int .u64 99] 28)) (some ⟨w5.heap.size,0,none⟩) 2 [99,99] from rd_lit (Ei .u64) w5 28 [99,99] (by simp))
      have HGz:=Aside0.mk (World.grownBy.trans HG.out (World.grownBy_alloc w5 (.cells #[.int .u64 99,.int .u64 99] 28) none))
      have HSz:=Aside0.mk (show w.heap.size ≤ (w5.alloc (.cells #[.int .u64 99,.int .u64 99] 28)).heap.size from HGz.out.size)
      clear e9
      go_wp2_with (at_builtin;refine app_at (Ei .u64) w.heap.size rfl (.tmp 51) (.tmp 52) 24 28 (.int .u64 0) 8 rfl Tryd.underlying24 (by kernel_rfl) rfl (by decide) (.slice Au j cu) j (List.replicate j 99) [99,99] ⟨w5.heap.size,0,none⟩ 2 2 rfl rfl HUz.out HR2.out HSz.out (by omega) ?_;intro v6 w6 ho hg hat;have HG6:=Aside0.mk (gb_own2 HGz.out HUz.out hg (Nat.le_refl _));obtain ⟨gu,cu6,rfl,-,-⟩:=ho.form (by omega);have HV6:=Aside0.mk (own_cell ho 0 0 99 (by cases j <;> simp [List.replicate_succ]) (by decide) (.int .u64 99) rfl);have hq6 : w6.cell? ⟨gu,0,none⟩ = some (.int .u64 99):=(by have h:=HV6.out;simpa [Ei] using h);clear ho hg hat HV6)
      go_ret
      exact ⟨rfl,HG6.out⟩
    | succ k =>
      have hlt : j < n:=by have:=HD.out;omega
      have hb1 : decide (j < n) = true:=decide_eq_true hlt
      have hlx : j < xs.length:=by rw [HLn.out];exact hlt
      obtain ⟨ub,cu2,he,-,-⟩:=HU.out.form (by omega)
      cases he
      obtain ⟨y,hy⟩ : ∃ y,y = rd xs (j : Int):=⟨_,rfl⟩
      have hcl : wr.cell? ⟨ub,j,none⟩ = some (.int .u64 y):=by
        have h:=own_cell HU.out j 0 y (by rw [nines_at hlx,hy]) (by decide) (.int .u64 y) rfl
        simpa [Ei] using h
      have hfz:=own_frozen HU.out j
      have HUd:=Aside0.mk (show wr.drew.cell? ⟨ub,j,none⟩ = some (.int .u64 y) from hcl)
      have HOw:=Aside0.mk (Own_calls wr.drew g A n c xs (j : Int) (HLj.out.gb (gb_drew wr none)).c0 (HLj.out.gb (gb_drew wr none)).rd)
      rw [show ownV xs (j : Int) = y by unfold ownV;rw [if_pos (by omega),hy]] at HOw
      have HY:=Aside0.mk hy
      have hk1 : (j : Int) < (n : Int):=by omega
      have hk0 : (0 : Int) ≤ (j : Int):=by omega
      clear hy
      go_wp2_with fail
      refine start_ (n:=10) (S:=fun w' => w'.cell? ⟨ub,j,none⟩ = some (.int .u64 y)) (ds:=[]) #[false,false,false,false,false,false,false,false,false,false] (by kernel_rfl) rfl rfl (HUd.out) (fun hHeld => ?_)
      refine pure_ (i:=0) (N:=some 37) (v:=?_) (a':=?_) #[true,false,false,false,false,false,false,false,false,false] rfl rfl (by kernel_rfl) (fun _ _ _ h => h) (Or.inl ⟨by rfl,?_⟩) ?_ ?_
      rotate_left
      · intro w'
        go_simp
        with_reducible rfl
      rotate_left
      · simp only [Act.put,List.setIfInBounds_toArray,List.set_cons_zero,List.set_cons_succ,i64_w,i32_w,bne_self_eq_false]
        rfl
      refine pure_ (i:=1) (N:=some 38) (v:=?_) (a':=?_) #[true,true,false,false,false,false,false,false,false,false] rfl rfl (by kernel_rfl) (fun _ _ _ h => h) (Or.inl ⟨by rfl,?_⟩) ?_ ?_
      rotate_left
      · intro w'
        go_simp
        with_reducible rfl
      rotate_left
      · simp only [Act.put,List.setIfInBounds_toArray,List.set_cons_zero,List.set_cons_succ,i64_w,i32_w,bne_self_eq_false]
        rfl
      refine pure_ (i:=2) (N:=some 39) (v:=?_) (a':=?_) #[true,true,true,false,false,false,false,false,false,false] rfl rfl (by kernel_rfl) (fun _ _ _ h => h) (Or.inl ⟨by rfl,?_⟩) ?_ ?_
      rotate_left
      · intro w'
        go_simp
        with_reducible rfl
      rotate_left
      · simp only [Act.put,List.setIfInBounds_toArray,List.set_cons_zero,List.set_cons_succ,i64_w,i32_w,bne_self_eq_false]
        rfl
      refine pure_ (i:=3) (N:=some 40) (v:=?_) (a':=?_) #[true,true,true,true,false,false,false,false,false,false] rfl rfl (by kernel_rfl) (fun _ _ _ h => h) (Or.inl ⟨by rfl,?_⟩) ?_ ?_
      rotate_left
      · intro w'
        go_simp
        with_reducible rfl
      rotate_left
      · simp only [Act.put,List.setIfInBounds_toArray,List.set_cons_zero,List.set_cons_succ,i64_w,i32_w,bne_self_eq_false]
        rfl
      refine pure_ (i:=5) (N:=some 42) (v:=?_) (a':=?_) #[true,true,true,true,false,true,false,false,false,false] rfl rfl (by kernel_rfl) (fun _ _ _ h => h) (Or.inl ⟨by rfl,?_⟩) ?_ ?_
      rotate_left
      · intro w'
        go_simp
        with_reducible rfl
      rotate_left
      · simp only [Act.put,List.setIfInBounds_toArray,List.set_cons_zero,List.set_cons_succ,i64_w,i32_w,bne_self_eq_false]
        rfl
      refine pure_ (i:=6) (N:=some 43) (v:=?_) (a':=?_) #[true,true,true,true,false,true,true,false,false,false] rfl rfl (by kernel_rfl) (fun _ _ _ h => h) (Or.inl ⟨by rfl,?_⟩) ?_ ?_
      rotate_left
      · intro w'
        go_simp
        with_reducible rfl
      rotate_left
      · simp only [Act.put,List.setIfInBounds_toArray,List.set_cons_zero,List.set_cons_succ,i64_w,i32_w,bne_self_eq_false]
        rfl
      refine pure_ (i:=7) (N:=some 44) (v:=?_) (a':=?_) #[true,true,true,true,false,true,true,true,false,false] rfl rfl (by kernel_rfl) (fun _ _ _ h => h) (Or.inl ⟨by rfl,?_⟩) ?_ ?_
      rotate_left
      · intro w'
        go_simp
        with_reducible rfl
      rotate_left
      · simp only [Act.put,List.setIfInBounds_toArray,List.set_cons_zero,List.set_cons_succ,i64_w,i32_w,bne_self_eq_false]
        rfl
      refine take_ (i:=8) (N:=some 45) (v:=?_) (a':=?_) #[true,true,true,true,false,true,true,true,true,false] rfl rfl (by kernel_rfl) (fun _ _ _ h => h) (Or.inl ⟨by rfl,?_⟩) hHeld ?_ ?_
      rotate_left
      · intro w' s0
        go_simp
        with_reducible rfl
      rotate_left
      · simp only [Act.put,List.setIfInBounds_toArray,List.set_cons_zero,List.set_cons_succ,i64_w,i32_w,bne_self_eq_false]
        rfl
      refine one_ (i:=4) (N:=some 41) #[true,true,true,true,true,true,true,true,true,false] rfl rfl (by kernel_rfl) (by decide) (fun K hK => ?_)
      refine goes_ Tryd.func23 (by kernel_rfl) rfl #[.pointer (some ⟨g,0,none⟩),.int .i64 (j : Int)] (by rfl) rfl rfl (by simp only [List.map_toArray,List.map_cons,List.map_nil];try rfl) ?_
      with_reducible refine (HOw.out).mono ?_
      rintro e w5 ⟨rfl,rfl⟩
      refine ⟨_,rfl,?_⟩
      refine hK.out _ _ (hHeld) (fun hHeld => ?_)
      clear hK K
      refine norm_ (a':=?_) ?_ ?_
      rotate_left
      · show Act.put _ (some 41) _ = _
        simp only [Act.put,List.setIfInBounds_toArray,List.set_cons_zero,List.set_cons_succ,i64_w,i32_w,bne_self_eq_false]
        rfl
      refine pure_ (i:=9) (N:=some 46) (v:=?_) (a':=?_) #[true,true,true,true,true,true,true,true,true,true] rfl rfl (by kernel_rfl) (fun _ _ _ h => h) (Or.inl ⟨by rfl,?_⟩) ?_ ?_
      rotate_left
      · intro w'
        go_simp
        with_reducible rfl
      rotate_left
      · simp only [Act.put,List.setIfInBounds_toArray,List.set_cons_zero,List.set_cons_succ,i64_w,i32_w,bne_self_eq_false]
        rfl
      refine done_ (by kernel_rfl) ?_
      go_wp2
      go_roundg k
      case measure => omega
      case rel =>
        have hub : w.heap.size ≤ ub:=(HU.out.lt ub rfl).1
        have hp:=own_put HU.out j 0 (rd xs (j : Int)) 99 (.int .u64 99) (nines_at hlx) (by decide) rfl
        rw [nines_set hlx] at hp
        have hp2:=own_kept (row:=none) hp (gb_drew _ none) (by simp)
        refine ⟨j + 1,by go_num,⟨by have:=HD.out;omega⟩,by omega,⟨by simpa [Ei] using hp2⟩,⟨World.grownBy.trans (gb_new HG.out (gb_setCell wr ub j _) hub) (gb_drew _ none)⟩,⟨((HLj.out.tn (Tn.set ub j _ (F:=fun i => i = ub) rfl) fun i hf he => ?_).gb (gb_drew _ none))⟩⟩
        have h1:=(HL.out.foot i hf).2
        omega
end Go.Proofs.YtgjjfnjnjnbfgaaDoor.L
namespace Go.Proofs.YtgjjfnjnjnbfgaaDoor.L
open Go.RowKit Go.Proofs.YtgjjfnjnjnbfgaaDoorW.PrintWords Go.Proofs.YtgjjfnjnjnbfgaaDoorW.PrintLast Go.Proofs.YtgjjfnjnjnbfgaaDoor.H Go.Proofs.YtgjjfnjnjnbfgaaDoor.Q Go.Proofs.YtgjjfnjnjnbfgaaDoor.GLG
set_option linter.unusedVariables false
set_option linter.unusedSimpArgs false
structure Pr where
  g : Nat
  A : Option Addr
  c : Nat
  h : Nat
  D : Option Addr
  d : Nat
  xs : List Int
/-- The blocks of a pair. -/
def PF (p : Pr) (k : Nat) : Prop:=Foot p.g p.A k ∨ Foot p.h p.D k
structure PrOk (w : World) (B : Nat) (cf : Cf) (factor : Int) (p : Pr) : Prop where
  a : LedAt w B p.g p.A p.xs.length p.c cf.a0 factor p.xs
  b : RefAt w B p.h p.D p.xs.length p.d cf factor p.xs
  ap : ∀ k,Foot p.g p.A k → ¬ Foot p.h p.D k
  le : p.xs.length ≤ 200
section
variable {w w' : World} {B : Nat} {cf : Cf} {factor : Int} {p : Pr}
theorem PrOk.tn {F : Nat → Prop} (h : PrOk w B cf factor p) (hg : Tn w w' F) (hF : ∀ k,PF p k → ¬ F k) : PrOk w' B cf factor p:=
  ⟨h.a.tn hg (fun k hk => hF k (.inl hk)),h.b.tn hg (fun k hk => hF k (.inr hk)),h.ap,h.le⟩
theorem PrOk.gb (h : PrOk w B cf factor p) (hg : w.grownBy w' none) : PrOk w' B cf factor p:=h.tn (Tn.gb0 hg (fun _ => False)) (fun _ _ => id)
theorem PrOk.foot (h : PrOk w B cf factor p) : ∀ k,PF p k → B ≤ k ∧ k < w.heap.size:=fun k hk => hk.elim (h.a.foot k) (h.b.foot k)
end
/-- What an act leaves: a pair at the same places. -/
def Acted (w : World) (B : Nat) (cf : Cf) (factor : Int) (p : Pr) (w' : World) : Prop:=
  ∃ p',PrOk w' B cf factor p' ∧ p'.g = p.g ∧ p'.h = p.h ∧ Tn w w' (PF p) ∧ ∀ k,PF p' k → PF p k ∨ w.heap.size ≤ k
theorem acted_same {w w' : World} {B : Nat} {cf : Cf} {factor : Int} {p : Pr} (h : PrOk w B cf factor p) (hg : w.grownBy w' none) : Acted w B cf factor p w':=⟨p,h.gb hg,rfl,rfl,Tn.gb0 hg _,fun k hk => .inl hk⟩
/-- Both are written where they lie. -/
theorem acted_in {w w0 w1 w2 : World} {B : Nat} {cf : Cf} {factor : Int} {p : Pr} {ys : List Int} (h : PrOk w B cf factor p) (hg : w.grownBy w0 none) (hl : LedAt w1 B p.g p.A p.xs.length p.c cf.a0 factor ys) (h1 : Tn w0 w1 (Foot p.g p.A)) (hr : RefAt w2 B p.h p.D p.xs.length p.d cf factor ys) (h2 : Tn w1 w2 (Foot p.h p.D)) (hy : ys.length = p.xs.length) : Acted w B cf factor p w2:=by
  refine ⟨⟨p.g,p.A,p.c,p.h,p.D,p.d,ys⟩,⟨?_,?_,h.ap,by rw [hy];exact h.le⟩,rfl,rfl,?_,fun k hk => .inl hk⟩
  · show LedAt w2 B p.g p.A ys.length p.c cf.a0 factor ys
    rw [hy];exact hl.tn h2 h.ap
  · show RefAt w2 B p.h p.D ys.length p.d cf factor ys
    rw [hy];exact hr
  · exact (Tn.gb0 hg _).trans' ((h1.mono fun i _ hi => .inl hi).trans' (h2.mono fun i _ hi => .inr hi))
theorem acted_open {w w0 w1 w2 : World} {B : Nat} {cf : Cf} {factor : Int} {p : Pr} {A' D' : Option Addr} {c' d' : Nat} (h : PrOk w B cf factor p) (hg : w.grownBy w0 none) (hn : p.xs.length < 200)
    (hl : LedAt w1 B p.g A' (p.xs.length + 1) c' cf.a0 factor (p.xs ++ [0])) (h1 : Tn w0 w1 (Foot p.g p.A)) (ha : ∀ ad,A' = some ad → (∃ a0,p.A = some a0 ∧ ad.block = a0.block) ∨ w0.heap.size ≤ ad.block)
    (hr : RefAt w2 B p.h D' (p.xs.length + 1) d' cf factor (p.xs ++ [0])) (h2 : Tn w1 w2 (Foot p.h p.D)) (hd : ∀ ad,D' = some ad → (∃ a0,p.D = some a0 ∧ ad.block = a0.block) ∨ w1.heap.size ≤ ad.block) : Acted w B cf factor p w2:=by
  have hy : (p.xs ++ [0]).length = p.xs.length + 1:=by simp
  have s0:=hg.size
  have s1:=h1.size
  have fa : ∀ k,Foot p.g A' k → Foot p.g p.A k ∨ (w0.heap.size ≤ k ∧ k < w1.heap.size):=by
    intro k hk
    have hb:=(hl.foot k hk).2
    rcases hk with rfl | ⟨ad,e,rfl⟩
    · exact .inl (.inl rfl)
    · rcases ha ad e with ⟨a0,e0,eb⟩ | hge
      · exact .inl (.inr ⟨a0,e0,eb⟩)
      · exact .inr ⟨hge,hb⟩
  have fd : ∀ k,Foot p.h D' k → Foot p.h p.D k ∨ w1.heap.size ≤ k:=by
    intro k hk
    rcases hk with rfl | ⟨ad,e,rfl⟩
    · exact .inl (.inl rfl)
    · rcases hd ad e with ⟨a0,e0,eb⟩ | hge
      · exact .inl (.inr ⟨a0,e0,eb⟩)
      · exact .inr hge
  have ap : ∀ k,Foot p.g A' k → ¬ Foot p.h p.D k:=by
    intro k hk hf
    have:=(h.b.foot k hf).2
    rcases fa k hk with h3 | h3
    · exact h.ap k h3 hf
    · omega
  refine ⟨⟨p.g,A',c',p.h,D',d',p.xs ++ [0]⟩,⟨?_,?_,?_,by rw [hy];omega⟩,rfl,rfl,?_,?_⟩
  · show LedAt w2 B p.g A' (p.xs ++ [0]).length c' cf.a0 factor (p.xs ++ [0])
    rw [hy];exact hl.tn h2 ap
  · show RefAt w2 B p.h D' (p.xs ++ [0]).length d' cf factor (p.xs ++ [0])
    rw [hy];exact hr
  · intro k hk hf
    rcases fd k hf with h3 | h3
    · exact ap k hk h3
    · have:=(hl.foot k hk).2;omega
  · exact (Tn.gb0 hg _).trans' ((h1.mono fun i _ hi => .inl hi).trans' (h2.mono fun i _ hi => .inr hi))
  · rintro k (hk | hk)
    · rcases fa k hk with h3 | h3
      · exact .inl (.inl h3)
      · exact .inr (by omega)
    · rcases fd k hk with h3 | h3
      · exact .inl (.inr h3)
      · exact .inr (by omega)
theorem charge_len (nodes : Int) (n : Nat) (xs : List Int) (a m : Int) : (chargeL nodes n xs a m).length = xs.length:=by unfold chargeL;split <;> simp
set_option maxHeartbeats 8000000 in
set_option maxRecDepth 100000 in
theorem act_calls (w : World) (B : Nat) (cf : Cf) (factor : Int) (p : Pr) (x1 x2 x3 x4 : Int) (hp : PrOk w B cf factor p) (hm : x4 ≤ 9223372036854775807) :
    Calls Tryd.prog 15 #[.agg #[.int .i64 x1,.int .i64 x2,.int .i64 x3,.int .i64 x4],.pointer (some ⟨p.g,0,none⟩),.pointer (some ⟨p.h,0,none⟩)] w fun e w' => e = .returned (.bool true) ∧ Acted w B cf factor p w':=by
  have HP:=Aside0.mk hp
  have HX:=Aside0.mk (heap_alloc_new w (.cells #[.int .i64 x1,.int .i64 x2,.int .i64 x3,.int .i64 x4] 40))
  have HG:=Aside0.mk (World.grownBy_alloc w (.cells #[.int .i64 x1,.int .i64 x2,.int .i64 x3,.int .i64 x4] 40) none)
  have HP1:=Aside0.mk (hp.gb HG.out)
  have hx0 : (w.alloc (.cells #[.int .i64 x1,.int .i64 x2,.int .i64 x3,.int .i64 x4] 40)).cell? ⟨w.heap.size,0,none⟩ = some (.int .i64 x1):=cell_of HX.out rfl
  have hq:=among_bd x1 4 (by omega)
  obtain ⟨q,hqe⟩ : ∃ q,q = amongV x1 4:=⟨_,rfl⟩
  have HA:=Aside0.mk (among_calls (w.alloc (.cells #[.int .i64 x1,.int .i64 x2,.int .i64 x3,.int .i64 x4] 40)) x1 4 (by omega))
  rw [← hqe] at HA hq
  clear hqe hp
  by_cases q0 : q = 0
  · subst q0
    clear hq
    by_cases hbig : 200 ≤ p.xs.length
    · have hb : decide ((200 : Int) ≤ (p.xs.length : Int)) = true:=decide_eq_true (by omega)
      go_enter Tryd.func15,Tryd.ntmps15
      go_wp2_with fail
      refine (HA.out).mono ?_
      rintro e w1 ⟨rfl,rfl⟩
      go_wp2_with fail
      refine (rList_calls _ p.h p.D p.xs.length p.d p.xs HP1.out.b.c9 HP1.out.b.rd (by have:=HP.out.le;omega)).mono ?_
      rintro e w2 ⟨v2,rfl,ho,hg⟩
      obtain ⟨Av,cv,rfl,-,-,-⟩:=own_open rfl ho
      have HG2:=Aside0.mk (World.grownBy.trans HG.out hg)
      clear ho hg
      go_wp2_with fail
      go_ret
      exact ⟨rfl,acted_same HP.out HG2.out⟩
    · have hb : decide ((200 : Int) ≤ (p.xs.length : Int)) = false:=decide_eq_false (by omega)
      have hee : ((p.xs.length : Int) == (p.xs.length : Int)) = true:=beq_self_eq_true _
      have hlt : p.xs.length < 200:=by omega
      clear hbig
      go_enter Tryd.func15,Tryd.ntmps15
      go_wp2_with fail
      refine (HA.out).mono ?_
      rintro e w1 ⟨rfl,rfl⟩
      go_wp2_with fail
      refine (rList_calls _ p.h p.D p.xs.length p.d p.xs HP1.out.b.c9 HP1.out.b.rd (by omega)).mono ?_
      rintro e w2 ⟨v2,rfl,ho,hg⟩
      obtain ⟨Av,cv,rfl,-,-,-⟩:=own_open rfl ho
      have HG2:=Aside0.mk (World.grownBy.trans HG.out hg)
      have HP2:=Aside0.mk (HP1.out.gb hg)
      clear ho hg
      go_wp2_with fail
      refine (Open_calls w2 B p.g p.A p.xs.length p.c cf.a0 factor p.xs HP2.out.a (by omega)).mono ?_
      rintro e w3 ⟨A',c',rfl,hl,ht,ha⟩
      have HL3:=Aside0.mk hl
      have HT3:=Aside0.mk ht
      have HA3:=Aside0.mk ha
      have HR3:=Aside0.mk (HP2.out.b.tn ht (fun k h1 h2 => HP2.out.ap k h2 h1))
      clear hl ht ha
      go_wp2_with fail
      refine (rOpen_calls w3 B p.h p.D p.xs.length p.d cf factor p.xs HR3.out (by omega)).mono ?_
      rintro e w4 ⟨D',d',rfl,hl,ht,ha⟩
      have HL4:=Aside0.mk (acted_open HP.out HG2.out hlt HL3.out HT3.out HA3.out hl ht ha)
      clear hl ht ha
      go_wp2_with fail
      go_ret
      exact ⟨rfl,HL4.out⟩
  by_cases q1 : q = 1
  · subst q1
    clear hq q0
    have HXd:=Aside0.mk (show (w.alloc (.cells #[.int .i64 x1,.int .i64 x2,.int .i64 x3,.int .i64 x4] 40)).drew.heap[w.heap.size]? = some (.cells #[.int .i64 x1,.int .i64 x2,.int .i64 x3,.int .i64 x4] 40) from HX.out)
    have HPd:=Aside0.mk (HP1.out.gb (gb_drew _ none))
    have HGd:=Aside0.mk (World.grownBy.trans HG.out (gb_drew _ none))
    have hxf : ¬ Foot p.g p.A w.heap.size:=fun hf => by have:=(HP.out.foot _ (.inl hf)).2;omega
    have hxh : ¬ Foot p.h p.D w.heap.size:=fun hf => by have:=(HP.out.foot _ (.inr hf)).2;omega
    have HCa:=Aside0.mk (Charge_calls (w.alloc (.cells #[.int .i64 x1,.int .i64 x2,.int .i64 x3,.int .i64 x4] 40)).drew B p.g p.A p.xs.length p.c cf.a0 factor p.xs x3 x4 HPd.out.a hm)
    go_enter Tryd.func15,Tryd.ntmps15
    go_wp2_with fail
    refine (HA.out).mono ?_
    rintro e w1 ⟨rfl,rfl⟩
    go_wp2_with fail
    refine start_ (n:=14) (S:=fun w' => w'.cell? ⟨w.heap.size,2,none⟩ = some (.int .i64 x3) ∧ w'.cell? ⟨w.heap.size,3,none⟩ = some (.int .i64 x4)) (ds:=[]) #[false,false,false,false,false,false,false,false,false,false,false,false,false,false] (by kernel_rfl) rfl rfl ⟨cell_of HXd.out rfl,cell_of HXd.out rfl⟩ (fun hHeld => ?_)
    refine pure_ (i:=0) (N:=some 27) (v:=?_) (a':=?_) #[true,false,false,false,false,false,false,false,false,false,false,false,false,false] rfl rfl (by kernel_rfl) (fun _ _ _ h => h) (Or.inl ⟨by rfl,?_⟩) ?_ ?_
    rotate_left
    · intro w'
      go_simp
      with_reducible rfl
    rotate_left
    · simp only [Act.put,List.setIfInBounds_toArray,List.set_cons_zero,List.set_cons_succ,i64_w,i32_w,beq_self_eq_true]
      rfl
    refine pure_ (i:=1) (N:=some 28) (v:=?_) (a':=?_) #[true,true,false,false,false,false,false,false,false,false,false,false,false,false] rfl rfl (by kernel_rfl) (fun _ _ _ h => h) (Or.inl ⟨by rfl,?_⟩) ?_ ?_
    rotate_left
    · intro w'
      go_simp
      with_reducible rfl
    rotate_left
    · simp only [Act.put,List.setIfInBounds_toArray,List.set_cons_zero,List.set_cons_succ,i64_w,i32_w,beq_self_eq_true]
      rfl
    refine pure_ (i:=3) (N:=some 30) (v:=?_) (a':=?_) #[true,true,false,true,false,false,false,false,false,false,false,false,false,false] rfl rfl (by kernel_rfl) (fun _ _ _ h => h) (Or.inl ⟨by rfl,?_⟩) ?_ ?_
    rotate_left
    · intro w'
      go_simp
      with_reducible rfl
    rotate_left
    · simp only [Act.put,List.setIfInBounds_toArray,List.set_cons_zero,List.set_cons_succ,i64_w,i32_w,beq_self_eq_true]
      rfl
    refine pure_ (i:=6) (N:=some 33) (v:=?_) (a':=?_) #[true,true,false,true,false,false,true,false,false,false,false,false,false,false] rfl rfl (by kernel_rfl) (fun _ _ _ h => h) (Or.inl ⟨by rfl,?_⟩) ?_ ?_
    rotate_left
    · intro w'
      go_simp
      with_reducible rfl
    rotate_left
    · simp only [Act.put,List.setIfInBounds_toArray,List.set_cons_zero,List.set_cons_succ,i64_w,i32_w,beq_self_eq_true]
      rfl
    refine pure_ (i:=7) (N:=some 34) (v:=?_) (a':=?_) #[true,true,false,true,false,false,true,true,false,false,false,false,false,false] rfl rfl (by kernel_rfl) (fun _ _ _ h => h) (Or.inl ⟨by rfl,?_⟩) ?_ ?_
    rotate_left
    · intro w'
      go_simp
      with_reducible rfl
    rotate_left
    · simp only [Act.put,List.setIfInBounds_toArray,List.set_cons_zero,List.set_cons_succ,i64_w,i32_w,beq_self_eq_true]
      rfl
    refine pure_ (i:=9) (N:=some 36) (v:=?_) (a':=?_) #[true,true,false,true,false,false,true,true,false,true,false,false,false,false] rfl rfl (by kernel_rfl) (fun _ _ _ h => h) (Or.inl ⟨by rfl,?_⟩) ?_ ?_
    rotate_left
    · intro w'
      go_simp
      with_reducible rfl
    rotate_left
    · simp only [Act.put,List.setIfInBounds_toArray,List.set_cons_zero,List.set_cons_succ,i64_w,i32_w,beq_self_eq_true]
      rfl
    refine take_ (i:=2) (N:=some 29) (v:=?_) (a':=?_) #[true,true,true,true,false,false,true,true,false,true,false,false,false,false] rfl rfl (by kernel_rfl) (fun _ _ _ h => h) (Or.inl ⟨by rfl,?_⟩) hHeld ?_ ?_
    rotate_left
    · rintro w' ⟨s0,s1⟩
      go_simp
      with_reducible rfl
    rotate_left
    · simp only [Act.put,List.setIfInBounds_toArray,List.set_cons_zero,List.set_cons_succ,i64_w,i32_w,beq_self_eq_true]
      rfl
    refine take_ (i:=4) (N:=some 31) (v:=?_) (a':=?_) #[true,true,true,true,true,false,true,true,false,true,false,false,false,false] rfl rfl (by kernel_rfl) (fun _ _ _ h => h) (Or.inl ⟨by rfl,?_⟩) hHeld ?_ ?_
    rotate_left
    · rintro w' ⟨s0,s1⟩
      go_simp
      with_reducible rfl
    rotate_left
    · simp only [Act.put,List.setIfInBounds_toArray,List.set_cons_zero,List.set_cons_succ,i64_w,i32_w,beq_self_eq_true]
      rfl
    refine take_ (i:=8) (N:=some 35) (v:=?_) (a':=?_) #[true,true,true,true,true,false,true,true,true,true,false,false,false,false] rfl rfl (by kernel_rfl) (fun _ _ _ h => h) (Or.inl ⟨by rfl,?_⟩) hHeld ?_ ?_
    rotate_left
    · rintro w' ⟨s0,s1⟩
      go_simp
      with_reducible rfl
    rotate_left
    · simp only [Act.put,List.setIfInBounds_toArray,List.set_cons_zero,List.set_cons_succ,i64_w,i32_w,beq_self_eq_true]
      rfl
    refine take_ (i:=10) (N:=some 37) (v:=?_) (a':=?_) #[true,true,true,true,true,false,true,true,true,true,true,false,false,false] rfl rfl (by kernel_rfl) (fun _ _ _ h => h) (Or.inl ⟨by rfl,?_⟩) hHeld ?_ ?_
    rotate_left
    · rintro w' ⟨s0,s1⟩
      go_simp
      with_reducible rfl
    rotate_left
    · simp only [Act.put,List.setIfInBounds_toArray,List.set_cons_zero,List.set_cons_succ,i64_w,i32_w,beq_self_eq_true]
      rfl
    refine one_ (i:=5) (N:=some 32) #[true,true,true,true,true,true,true,true,true,true,true,false,false,false] rfl rfl (by kernel_rfl) (by decide) (fun K hK => ?_)
    refine goes_ Tryd.func22 (by kernel_rfl) rfl #[.pointer (some ⟨p.g,0,none⟩),.int .i64 x3,.int .i64 x4] (by rfl) rfl rfl (by simp only [List.map_toArray,List.map_cons,List.map_nil];try rfl) ?_
    with_reducible refine (HCa.out).mono ?_
    rintro e w5 ⟨rfl,hl,ht⟩
    refine ⟨_,rfl,?_⟩
    have HL5:=Aside0.mk hl;have HT5:=Aside0.mk ht;have HR5:=Aside0.mk (HPd.out.b.tn ht (fun k h1 h2 => HPd.out.ap k h2 h1));have HX5:=Aside0.mk (blk_tn HXd.out ht hxf);have HCb:=Aside0.mk (rCharge_calls w5 B p.h p.D p.xs.length p.d cf factor p.xs x3 x4 HR5.out hm);clear hl ht HCa
    refine hK.out _ _ ⟨cell_of HX5.out rfl,cell_of HX5.out rfl⟩ (fun hHeld => ?_)
    clear hK K
    refine norm_ (a':=?_) ?_ ?_
    rotate_left
    · show Act.put _ (some 32) _ = _
      simp only [Act.put,List.setIfInBounds_toArray,List.set_cons_zero,List.set_cons_succ,i64_w,i32_w,beq_self_eq_true]
      rfl
    refine one_ (i:=11) (N:=some 38) #[true,true,true,true,true,true,true,true,true,true,true,true,false,false] rfl rfl (by kernel_rfl) (by decide) (fun K hK => ?_)
    refine goes_ Tryd.func36 (by kernel_rfl) rfl #[.pointer (some ⟨p.h,0,none⟩),.int .i64 x3,.int .i64 x4] (by rfl) rfl rfl (by simp only [List.map_toArray,List.map_cons,List.map_nil];try rfl) ?_
    with_reducible refine (HCb.out).mono ?_
    rintro e w6 ⟨rfl,hl,ht⟩
    refine ⟨_,rfl,?_⟩
    have HR6:=Aside0.mk hl;have HT6:=Aside0.mk ht;have HX6:=Aside0.mk (blk_tn HX5.out ht hxh);clear hl ht HCb
    refine hK.out _ _ ⟨cell_of HX6.out rfl,cell_of HX6.out rfl⟩ (fun hHeld => ?_)
    clear hK K
    refine norm_ (a':=?_) ?_ ?_
    rotate_left
    · show Act.put _ (some 38) _ = _
      simp only [Act.put,List.setIfInBounds_toArray,List.set_cons_zero,List.set_cons_succ,i64_w,i32_w,beq_self_eq_true]
      rfl
    refine pure_ (i:=12) (N:=some 39) (v:=?_) (a':=?_) #[true,true,true,true,true,true,true,true,true,true,true,true,true,false] rfl rfl (by kernel_rfl) (fun _ _ _ h => h) (Or.inl ⟨by rfl,?_⟩) ?_ ?_
    rotate_left
    · intro w'
      go_simp
      with_reducible rfl
    rotate_left
    · simp only [Act.put,List.setIfInBounds_toArray,List.set_cons_zero,List.set_cons_succ,i64_w,i32_w,beq_self_eq_true]
      rfl
    refine pure_ (i:=13) (N:=some 6) (v:=?_) (a':=?_) #[true,true,true,true,true,true,true,true,true,true,true,true,true,true] rfl rfl (by kernel_rfl) (fun _ _ _ h => h) (Or.inl ⟨by rfl,?_⟩) ?_ ?_
    rotate_left
    · intro w'
      go_simp
      with_reducible rfl
    rotate_left
    · simp only [Act.put,List.setIfInBounds_toArray,List.set_cons_zero,List.set_cons_succ,i64_w,i32_w,beq_self_eq_true]
      rfl
    refine done_ (by kernel_rfl) ?_
    go_wp2
    go_ret
    exact ⟨rfl,acted_in HP.out HGd.out HL5.out HT5.out HR6.out HT6.out (charge_len _ _ _ _ _)⟩
  by_cases q2 : q = 2
  · subst q2
    clear hq q0 q1
    go_enter Tryd.func15,Tryd.ntmps15
    go_wp2_with fail
    refine (HA.out).mono ?_
    rintro e w1 ⟨rfl,rfl⟩
    go_wp2_with fail
    refine (Fade_calls _ B p.g p.A p.xs.length p.c cf.a0 factor p.xs HP1.out.a (by have:=HP.out.le;omega)).mono ?_
    rintro e w3 ⟨rfl,hl,ht⟩
    have HL3:=Aside0.mk hl
    have HT3:=Aside0.mk ht
    have HR3:=Aside0.mk (HP1.out.b.tn ht (fun k h1 h2 => HP1.out.ap k h2 h1))
    clear hl ht
    go_wp2_with fail
    refine (rFade_calls w3 B p.h p.D p.xs.length p.d cf factor p.xs HR3.out (by have:=HP.out.le;omega)).mono ?_
    rintro e w4 ⟨rfl,hl,ht⟩
    have HL4:=Aside0.mk (acted_in HP.out HG.out HL3.out HT3.out hl ht (by simp))
    clear hl ht
    go_wp2_with fail
    go_ret
    exact ⟨rfl,HL4.out⟩
  have hq3 : q = 3:=by omega
  subst hq3
  clear hq q0 q1 q2
  go_enter Tryd.func15,Tryd.ntmps15
  go_wp2_with fail
  refine (HA.out).mono ?_
  rintro e w1 ⟨rfl,rfl⟩
  go_wp2_with fail
  go_ret
  exact ⟨rfl,acted_same HP.out HG.out⟩
end Go.Proofs.YtgjjfnjnjnbfgaaDoor.L
namespace Go.Proofs.YtgjjfnjnjnbfgaaDoor.L
open Go.RowKit Go.Proofs.YtgjjfnjnjnbfgaaDoorW.PrintWords Go.Proofs.YtgjjfnjnjnbfgaaDoorW.PrintLast Go.Proofs.YtgjjfnjnjnbfgaaDoor.H Go.Proofs.YtgjjfnjnjnbfgaaDoor.Q Go.Proofs.YtgjjfnjnjnbfgaaDoor.GLG Go.ChangeShapes Go.WideShapes Go.Deep
set_option linter.unusedVariables false
set_option linter.unusedSimpArgs false
/-- Pointers to blocks. -/
def Ep : Enc Nat:=⟨1,fun g => [.pointer (some ⟨g,0,none⟩)],fun _ => rfl,fun _ v hv => by simp at hv;subst hv;rfl,by decide⟩
structure Pool (w0 w : World) (cf : Cf) (factor : Int) (gl cl gr cr : Nat) (gs hs : List Nat) (ps : List Pr) : Prop where
  ok : ∀ (i : Nat) (p : Pr),ps[i]? = some p → PrOk w w0.heap.size cf factor p
  dis : ∀ (i j : Nat) (p q : Pr),i ≠ j → ps[i]? = some p → ps[j]? = some q → ∀ k,PF p k → ¬ PF q k
  rl : w.ownsRow w0.heap.size 29 Ep.sz (.slice (some ⟨gl,0,none⟩) gs.length cl) gs.length (flat Ep gs)
  rr : w.ownsRow w0.heap.size 33 Ep.sz (.slice (some ⟨gr,0,none⟩) hs.length cr) hs.length (flat Ep hs)
  ne : gl ≠ gr
  out : ∀ (i : Nat) (p : Pr),ps[i]? = some p → ∀ k,PF p k → k ≠ gl ∧ k ≠ gr
  bel : Below w0.heap.size w0 w
section
variable {w0 w w' : World} {cf : Cf} {factor : Int} {gl cl gr cr : Nat} {gs hs : List Nat} {ps : List Pr}
theorem Pool.gl_lt (h : Pool w0 w cf factor gl cl gr cr gs hs ps) : w0.heap.size ≤ gl ∧ gl < w.heap.size:=h.rl.lt gl rfl
theorem Pool.gr_lt (h : Pool w0 w cf factor gl cl gr cr gs hs ps) : w0.heap.size ≤ gr ∧ gr < w.heap.size:=h.rr.lt gr rfl
theorem Pool.gb (h : Pool w0 w cf factor gl cl gr cr gs hs ps) (hg : w.grownBy w' none) : Pool w0 w' cf factor gl cl gr cr gs hs ps:=
  ⟨fun i p hp => (h.ok i p hp).gb hg,h.dis,own_kept h.rl hg (by simp),own_kept h.rr hg (by simp),h.ne,h.out,below_gb h.bel hg h.bel.size (by simp)⟩
theorem Pool.cl_ (h : Pool w0 w cf factor gl cl gr cr gs hs ps) (k : Nat) (g : Nat) (hk : gs[k]? = some g) : w.cell? ⟨gl,k,none⟩ = some (.pointer (some ⟨g,0,none⟩)):=by
  have:=own_cell h.rl k 0 g hk (by decide) _ rfl
  simpa [Ep] using this
theorem Pool.cr_ (h : Pool w0 w cf factor gl cl gr cr gs hs ps) (k : Nat) (g : Nat) (hk : hs[k]? = some g) : w.cell? ⟨gr,k,none⟩ = some (.pointer (some ⟨g,0,none⟩)):=by
  have:=own_cell h.rr k 0 g hk (by decide) _ rfl
  simpa [Ep] using this
/-- The pair at i is acted on. -/
theorem Pool.act (h : Pool w0 w cf factor gl cl gr cr gs hs ps) {i : Nat} {p : Pr} (hi : ps[i]? = some p) (ha : Acted w w0.heap.size cf factor p w') : ∃ p',p'.g = p.g ∧ p'.h = p.h ∧ Pool w0 w' cf factor gl cl gr cr gs hs (ps.set i p'):=by
  obtain ⟨p',ok',eg,eh,ht,hf⟩:=ha
  have hlt : i < ps.length:=(List.getElem?_eq_some_iff.1 hi).1
  have hpf:=(h.ok i p hi).foot
  have hat : ∀ j q,(ps.set i p')[j]? = some q → (j = i ∧ q = p') ∨ (j ≠ i ∧ ps[j]? = some q):=by
    intro j q hq
    rw [List.getElem?_set] at hq
    by_cases e : i = j
    · subst e;rw [if_pos rfl,if_pos hlt] at hq;exact .inl ⟨rfl,(Option.some.inj hq).symm⟩
    · rw [if_neg e] at hq;exact .inr ⟨fun h => e h.symm,hq⟩
  have old : ∀ j q,j ≠ i → ps[j]? = some q → ∀ k,PF q k → ¬ PF p' k:=by
    intro j q hj hq k hk hk'
    rcases hf k hk' with h1 | h1
    · exact h.dis j i q p hj hq hi k hk h1
    · have:=((h.ok j q hq).foot k hk).2;omega
  refine ⟨p',eg,eh,⟨?_,?_,?_,?_,h.ne,?_,?_⟩⟩
  · intro j q hq
    rcases hat j q hq with ⟨rfl,rfl⟩ | ⟨hj,hq⟩
    · exact ok'
    · exact (h.ok j q hq).tn ht (fun k hk => h.dis j i q p hj hq hi k hk)
  · intro a b q r hab hq hr k hk
    rcases hat a q hq with ⟨ea,eq⟩ | ⟨ha,hq2⟩
    · rcases hat b r hr with ⟨eb,er⟩ | ⟨hb,hr2⟩
      · exact absurd (ea.trans eb.symm) hab
      · rw [eq] at hk
        exact fun hk2 => old b r hb hr2 k hk2 hk
    · rcases hat b r hr with ⟨eb,er⟩ | ⟨hb,hr2⟩
      · rw [er];exact old a q ha hq2 k hk
      · exact h.dis a b q r hab hq2 hr2 k hk
  · exact own_tn h.rl ht (fun k hk hp => (h.out i p hi k hp).1 (by simpa [Value.ownBlock] using hk.symm))
  · exact own_tn h.rr ht (fun k hk hp => (h.out i p hi k hp).2 (by simpa [Value.ownBlock] using hk.symm))
  · intro j q hq k hk
    rcases hat j q hq with ⟨rfl,rfl⟩ | ⟨hj,hq⟩
    · rcases hf k hk with h1 | h1
      · exact h.out j p hi k h1
      · have:=h.gl_lt;have:=h.gr_lt;omega
    · exact h.out j q hq k hk
  · exact h.bel.trans (ht.below h.bel.size (fun k hk => (hpf k hk).1))
/-- The row on the left is grown. -/
theorem Pool.left (h : Pool w0 w cf factor gl cl gr cr gs hs ps) (hg : w.grownBy w' (some gl)) {gl' cl' : Nat} {gs' : List Nat} (ho : w'.ownsRow w0.heap.size 29 Ep.sz (.slice (some ⟨gl',0,none⟩) gs'.length cl') gs'.length (flat Ep gs')) (hat : gl' = gl ∨ gl' = w.heap.size) : Pool w0 w' cf factor gl' cl' gr cr gs' hs ps:=by
  have l1:=h.gl_lt
  have l2:=h.gr_lt
  have hne:=h.ne
  refine ⟨fun i p hp => (h.ok i p hp).tn (Tn.of_gb hg (F:=fun k => k = gl) (fun k hk => by cases hk;rfl)) (fun k hk => (h.out i p hp k hk).1),h.dis,ho,?_,by omega,fun i p hp k hk => ?_,below_gb h.bel hg h.bel.size (fun k hk => by cases hk;exact l1.1)⟩
  · exact own_tn h.rr (Tn.of_gb hg (F:=fun k => k = gl) (fun k hk => by cases hk;rfl)) (fun k hk he => by simp [Value.ownBlock] at hk;omega)
  · have h1:=h.out i p hp k hk
    have h2:=((h.ok i p hp).foot k hk).2
    omega
theorem Pool.right (h : Pool w0 w cf factor gl cl gr cr gs hs ps) (hg : w.grownBy w' (some gr)) {gr' cr' : Nat} {hs' : List Nat} (ho : w'.ownsRow w0.heap.size 33 Ep.sz (.slice (some ⟨gr',0,none⟩) hs'.length cr') hs'.length (flat Ep hs')) (hat : gr' = gr ∨ gr' = w.heap.size) : Pool w0 w' cf factor gl cl gr' cr' gs hs' ps:=by
  have l1:=h.gl_lt
  have l2:=h.gr_lt
  have hne:=h.ne
  refine ⟨fun i p hp => (h.ok i p hp).tn (Tn.of_gb hg (F:=fun k => k = gr) (fun k hk => by cases hk;rfl)) (fun k hk => (h.out i p hp k hk).2),h.dis,?_,ho,by omega,fun i p hp k hk => ?_,below_gb h.bel hg h.bel.size (fun k hk => by cases hk;exact l2.1)⟩
  · exact own_tn h.rl (Tn.of_gb hg (F:=fun k => k = gr) (fun k hk => by cases hk;rfl)) (fun k hk he => by simp [Value.ownBlock] at hk;omega)
  · have h1:=h.out i p hp k hk
    have h2:=((h.ok i p hp).foot k hk).2
    omega
/-- A pair more. -/
theorem Pool.add (h : Pool w0 w cf factor gl cl gr cr gs hs ps) {p : Pr} (hp : PrOk w w0.heap.size cf factor p) (hd : ∀ (i : Nat) (q : Pr),ps[i]? = some q → ∀ k,PF q k → ¬ PF p k) (ho : ∀ k,PF p k → k ≠ gl ∧ k ≠ gr) : Pool w0 w cf factor gl cl gr cr gs hs (ps ++ [p]):=by
  have hat : ∀ j q,(ps ++ [p])[j]? = some q → (j = ps.length ∧ q = p) ∨ (j < ps.length ∧ ps[j]? = some q):=by
    intro j q hq
    rcases Nat.lt_or_ge j ps.length with hj | hj
    · rw [List.getElem?_append_left hj] at hq;exact .inr ⟨hj,hq⟩
    · rw [List.getElem?_append_right hj] at hq
      have hj2 : j - ps.length < 1:=by have:=(List.getElem?_eq_some_iff.1 hq).1;simpa using this
      have e : j - ps.length = 0:=by omega
      rw [e] at hq
      exact .inl ⟨by omega,by simpa using hq.symm⟩
  refine ⟨?_,?_,h.rl,h.rr,h.ne,?_,h.bel⟩
  · intro j q hq
    rcases hat j q hq with ⟨rfl,rfl⟩ | ⟨hj,hq⟩
    · exact hp
    · exact h.ok j q hq
  · intro a b q r hab hq hr k hk
    rcases hat a q hq with ⟨ea,eq⟩ | ⟨ha,hq2⟩
    · rcases hat b r hr with ⟨eb,er⟩ | ⟨hb,hr2⟩
      · exact absurd (ea.trans eb.symm) hab
      · rw [eq] at hk
        exact fun hk2 => hd b r hr2 k hk2 hk
    · rcases hat b r hr with ⟨eb,er⟩ | ⟨hb,hr2⟩
      · rw [er];exact hd a q hq2 k hk
      · exact h.dis a b q r hab hq2 hr2 k hk
  · intro j q hq k hk
    rcases hat j q hq with ⟨rfl,rfl⟩ | ⟨hj,hq⟩
    · exact ho k hk
    · exact h.out j q hq k hk
end
/-- Acts that are handed in,with a bound of what they name. -/
def Acts (w : World) (A : Option Addr) (n : Nat) (ls : List (Int × Int × Int × Int)) : Prop:=Rd Ea w A n ls ∧ ∀ x ∈ ls,x.2.2.2 ≤ 9223372036854775807
theorem acts_at {w : World} {A : Option Addr} {n : Nat} {ls : List (Int × Int × Int × Int)} (hr : Rd Ea w A n ls) : (∀ ad,A = some ad → ∀ i,i < n → ∀ v,w.cell? (ad.add (i * 4 + 3)) = some (.int .i64 v) → v ≤ 9223372036854775807) → Acts w A n ls:=fun h => by
  refine ⟨hr,fun x hx => ?_⟩
  obtain ⟨i,hi⟩:=List.getElem?_of_mem hx
  have hn : i < n:=by have:=(List.getElem?_eq_some_iff.1 hi).1;have:=hr.1;omega
  obtain ⟨ad,y,e,hy,hc⟩:=hr.at_ i hn
  obtain rfl : y = x:=Option.some.inj (hy.symm.trans hi)
  exact h ad e i hn _ (hc 3 _ rfl)
theorem open_acts2 {H : Type} {enc : TypeId × Value → H} {W : World} {base : Nat} {spare : Nat → Bool} {held : Bool} {a : Option Addr} {len cap : Nat} {d : DataW H} {ps : List MemPlace} {ts : List TypeId} {ds : List (DataW H)} {j : Nat}
    (hsz : (DataW.weightsEach Tryd.prog ts ds).all (· ≤ reachBytes) = true) (ht : ts[j]? = some 25) (hd : ds[j]? = some d) (h : DataW.Trod enc Tryd.prog W base spare held 25 (.slice a len cap) d ps) :
    ∃ ls,Acts W a len ls ∧ len ≤ cap ∧ len * 32 ≤ 140737488351232:=by
  obtain ⟨ls,hr,hc,hs⟩:=open_acts hsz ht hd h
  refine ⟨ls,acts_at hr fun ad ha i hil v hv => ?_,hc,hs⟩
  obtain ⟨fuel,hf⟩:=h
  have hf1 : DataW.trod enc Tryd.prog W base spare held fuel 25 [.slice a len cap] = some (d,ps):=by simpa [Value.cells] using hf
  rcases open_fields Tryd.underlying25 Tryd.underlying40 (by kernel_rfl) (by kernel_rfl) hf1 with ⟨hcs,_⟩ | ⟨x,l,c,m,D,Pl,hcs,hl,hm,hml,hx,hi⟩
  · simp at hcs
    omega
  · simp at hcs
    obtain ⟨rfl,rfl,rfl⟩:=hcs
    cases ha
    obtain ⟨n,hf⟩:=hi i (by omega)
    obtain ⟨v3,y3,c3,t3⟩:=hf 3 _ rfl
    obtain ⟨b3,e3,_,w3⟩:=DataW.trod_int Tryd.underlying3 t3
    simp at e3
    subst e3
    have e:=Option.some.inj (c3.symm.trans hv)
    injection e with _ e2
    subst e2
    simp [Lit.wf,IntKind.min,IntKind.max,IntKind.bits,IntKind.signed] at w3
    omega
end Go.Proofs.YtgjjfnjnjnbfgaaDoor.L
namespace Go.Proofs.YtgjjfnjnjnbfgaaDoor.L
open Go.RowKit Go.Proofs.YtgjjfnjnjnbfgaaDoorW.PrintWords Go.Proofs.YtgjjfnjnjnbfgaaDoorW.PrintLast Go.Proofs.YtgjjfnjnjnbfgaaDoor.H Go.Proofs.YtgjjfnjnjnbfgaaDoor.Q Go.Proofs.YtgjjfnjnjnbfgaaDoor.GLG
set_option linter.unusedVariables false
set_option linter.unusedSimpArgs false
set_option maxHeartbeats 8000000 in
set_option maxRecDepth 100000 in
theorem Script_bad (w : World) (hL : LaidW w) (a0 a1 a2 a3 a4 a5 a6 a7 : Int) (D : Option Addr) (n cd : Nat) (us : List Int) (hx : Rd (Ei .u64) w D n us) (hd : n ≤ cd) (hs2 : n * 8 ≤ 140737488351232) (A : Option Addr) (na c : Nat) (E : Option Addr) (ns ce : Nat) (r : Int)
    (hN : ∀ (W : World) (A : Option Addr) (c : Nat),Calls Tryd.prog 9 #[.agg #[.int .i64 a0,.int .i64 a1,.int .i64 a2,.int .i64 a3,.int .i64 a4,.int .i64 a5,.int .i64 a6,.int .i64 a7],.slice A n c] W fun e w' => e = .returned (.tuple #[.pointer none,.int .i64 r]) ∧ W.grownBy w' none)
    (hM : ∀ (W : World) (A : Option Addr) (c : Nat),Calls Tryd.prog 10 #[.agg #[.int .i64 a0,.int .i64 a1,.int .i64 a2,.int .i64 a3,.int .i64 a4,.int .i64 a5,.int .i64 a6,.int .i64 a7],.slice A n c] W fun e w' => e = .returned (.tuple #[.pointer none,.int .i64 r]) ∧ W.grownBy w' none) :
    Calls Tryd.prog 3 #[.agg #[.int .i64 a0,.int .i64 a1,.int .i64 a2,.int .i64 a3,.int .i64 a4,.int .i64 a5,.int .i64 a6,.int .i64 a7],.slice D n cd,.slice A na c,.slice E ns ce] w fun e w' => e = .returned (.bool true) ∧ Below w.heap.size w w':=by
  have HNN:=Aside0.mk hN
  have HMM:=Aside0.mk hM
  have hrr : (r != r) = false:=bne_self_eq_false _
  clear hN hM
  have HB0:=Aside0.mk (heap_alloc_new w (.cells #[.int .i64 a0,.int .i64 a1,.int .i64 a2,.int .i64 a3,.int .i64 a4,.int .i64 a5,.int .i64 a6,.int .i64 a7] 23))
  have HG0:=Aside0.mk (World.grownBy_alloc w (.cells #[.int .i64 a0,.int .i64 a1,.int .i64 a2,.int .i64 a3,.int .i64 a4,.int .i64 a5,.int .i64 a6,.int .i64 a7] 23) none)
  have HL:=Aside0.mk hL
  have HX:=Aside0.mk hx
  have HLn:=Aside0.mk hx.1
  clear hL hx
  go_enter Tryd.func3,Tryd.ntmps3
  go_wp2_with fail
  refine (shown_calls _ (laid_below HL.out (below_of_gb HG0.out))).mono ?_
  rintro e w1 ⟨rfl,hb⟩
  have HB1:=Aside0.mk (blk_kept HB0.out (gb_of_below hb none) (by simp))
  have HG1:=Aside0.mk (World.grownBy.trans HG0.out (gb_of_below hb none))
  have HX1:=Aside0.mk (HX.out.gb HG1.out)
  have HN1:=Aside0.mk (show w1.ownsRow w1.heap.size 28 (Ei .u64).sz (.slice none 0 0) 0 (flat (Ei .u64) []) from own_nil _ _ _ _)
  clear hb HB0 HG0
  go_wp2_with (first | (at_builtin;refine app (Ei .u64) w1.heap.size rfl (.const (.slice none 0 0)) (.tmp 23) 24 28 (.int .u64 0) 8 rfl Tryd.underlying24 (by kernel_rfl) rfl (by decide) _ 0 [] us _ n _ rfl rfl rfl HN1.out HX1.out (Nat.le_refl _) (by omega) ?_;intro v2 w2 ho hg hn2;rw [Nat.zero_add,List.nil_append] at ho;have hg2 : w1.grownBy w2 none:=hg;have HO2:=Aside0.mk (own_kept ho (World.grownBy_alloc w2 (.cells #[.int .u64 7] 28) none) (by simp));have HG2:=Aside0.mk (World.grownBy.trans hg2 (World.grownBy_alloc w2 (.cells #[.int .u64 7] 28) none));have HR2:=Aside0.mk (show Rd (Ei .u64) (w2.alloc (.cells #[.int .u64 7] 28)) (some ⟨w2.heap.size,0,none⟩) 1 [7] from rd_lit (Ei .u64) w2 28 [7] (by simp));have HS2:=Aside0.mk HG2.out.size;clear ho hg hn2 hg2) | (at_builtin;refine app_at (Ei .u64) w1.heap.size rfl (.tmp 24) (.tmp 25) 24 28 (.int .u64 0) 8 rfl Tryd.underlying24 (by kernel_rfl) rfl (by decide) _ n us [7] ⟨w2.heap.size,0,none⟩ 1 1 rfl rfl HO2.out HR2.out HS2.out (by omega) ?_;intro v3 w3 ho hg hat;have HG3:=Aside0.mk (gb_own2 HG2.out HO2.out hg (Nat.le_refl _));obtain ⟨go,co,rfl,hgo,hgo2⟩:=ho.form (by omega);have HO3:=Aside0.mk ho;have HB3:=Aside0.mk (blk_kept HB1.out HG3.out (by simp));have HW3:=Aside0.mk (World.grownBy.trans HG1.out HG3.out);have HX3:=Aside0.mk (HX1.out.gb HG3.out);have hco : n + 1 ≤ co:=(own_form ho).1;clear ho hg hat HO2 HG2 HR2 HS2 HN1))
  obtain ⟨i3,hi3,hz0,hz1,hz2⟩:=info_parts (show (Tryd.prog.info? 28).map (fun i => (i.zero,i.size,i.bytes)) = some (some (.int .u64 0),1,8) by kernel_rfl)
  have hcut:=cut_to (P:=Tryd.prog) 24 28 .i64 Tryd.underlying24 hi3 (some ⟨go,0,none⟩) (n + 1) co (n : Int) (by omega) (by omega) hco
  rw [Int.toNat_natCast] at hcut
  have HOd:=Aside0.mk (own_kept (row:=none) HO3.out (gb_drew w3 none) (by simp))
  have hol : (us ++ [7]).length = n + 1:=by rw [List.length_append,HLn.out];rfl
  have HRo:=Aside0.mk (show Rd (Ei .u64) w3.drew (some ⟨go,0,none⟩) n us from (by have h:=(own_rd hol HOd.out).take_ n (by omega);have e : (us ++ [7]).take n = us:=List.take_left' HLn.out;rw [e] at h;exact h))
  have HBd:=Aside0.mk (show w3.drew.heap[w.heap.size]? = some (.cells #[.int .i64 a0,.int .i64 a1,.int .i64 a2,.int .i64 a3,.int .i64 a4,.int .i64 a5,.int .i64 a6,.int .i64 a7] 23) from HB3.out)
  have hcl7 : ∀ W : World,w3.drew.grownBy W none → W.cell? ⟨go,n,none⟩ = some (.int .u64 7):=fun W hg => by
    have h:=own_cell (own_kept (row:=none) HOd.out hg (by simp)) n 0 7 (by rw [List.getElem?_append_right (by rw [HLn.out];exact Nat.le_refl _),HLn.out,Nat.sub_self];rfl) (by decide) (.int .u64 7) rfl
    simpa [Ei] using h
  have HC7:=Aside0.mk hcl7
  clear hi3 hz0 hz1 hz2 hcl7 hol
  have HNd:=Aside0.mk (HNN.out w3.drew (some ⟨go,0,none⟩) co)
  go_wp2_with fail
  refine start_ (n:=11) (S:=fun w' => w'.cell? ⟨w.heap.size,0,none⟩ = some (.int .i64 a0) ∧ w'.cell? ⟨w.heap.size,1,none⟩ = some (.int .i64 a1) ∧ w'.cell? ⟨w.heap.size,2,none⟩ = some (.int .i64 a2) ∧ w'.cell? ⟨w.heap.size,3,none⟩ = some (.int .i64 a3) ∧ w'.cell? ⟨w.heap.size,4,none⟩ = some (.int .i64 a4) ∧ w'.cell? ⟨w.heap.size,5,none⟩ = some (.int .i64 a5) ∧ w'.cell? ⟨w.heap.size,6,none⟩ = some (.int .i64 a6) ∧ w'.cell? ⟨w.heap.size,7,none⟩ = some (.int .i64 a7)) (ds:=[]) #[false,false,false,false,false,false,false,false,false,false,false] (by kernel_rfl) rfl rfl ⟨cell_of HBd.out rfl,cell_of HBd.out rfl,cell_of HBd.out rfl,cell_of HBd.out rfl,cell_of HBd.out rfl,cell_of HBd.out rfl,cell_of HBd.out rfl,cell_of HBd.out rfl⟩ (fun hHeld => ?_)
  refine pure_ (i:=1) (N:=some 29) (v:=?_) (a':=?_) #[false,true,false,false,false,false,false,false,false,false,false] rfl rfl (by kernel_rfl) (fun _ _ _ h => h) (Or.inl ⟨by rfl,?_⟩) ?_ ?_
  rotate_left
  · intro w'
    go_simp
    with_reducible rfl
  rotate_left
  · simp only [Act.put,List.setIfInBounds_toArray,List.set_cons_zero,List.set_cons_succ,i64_w,i32_w]
    rfl
  refine pure_ (i:=2) (N:=some 30) (v:=?_) (a':=?_) #[false,true,true,false,false,false,false,false,false,false,false] rfl rfl (by kernel_rfl) (fun _ _ _ h => h) (Or.inl ⟨by rfl,?_⟩) ?_ ?_
  rotate_left
  · intro w'
    go_simp
    with_reducible rfl
  rotate_left
  · simp only [Act.put,List.setIfInBounds_toArray,List.set_cons_zero,List.set_cons_succ,i64_w,i32_w]
    rfl
  refine pure_ (i:=3) (N:=some 31) (v:=?_) (a':=?_) #[false,true,true,true,false,false,false,false,false,false,false] rfl rfl (by kernel_rfl) (fun _ _ _ h => h) (Or.inl ⟨by rfl,?_⟩) ?_ ?_
  rotate_left
  · intro w'
    go_simp
    with_reducible rfl
  rotate_left
  · simp only [Act.put,List.setIfInBounds_toArray,List.set_cons_zero,List.set_cons_succ,i64_w,i32_w]
    rfl
  refine pure_ (i:=4) (N:=some 32) (v:=?_) (a':=?_) #[false,true,true,true,true,false,false,false,false,false,false] rfl rfl (by kernel_rfl) (fun _ _ _ h => h) (Or.inl ⟨by rfl,?_⟩) ?_ ?_
  rotate_left
  · intro w'
    go_simp
    with_reducible rfl
  rotate_left
  · simp only [Act.put,List.setIfInBounds_toArray,List.set_cons_zero,List.set_cons_succ,i64_w,i32_w]
    rfl
  refine take_ (i:=0) (N:=some 28) (v:=?_) (a':=?_) #[true,true,true,true,true,false,false,false,false,false,false] rfl rfl (by kernel_rfl) (fun _ _ _ h => h) (Or.inl ⟨by rfl,?_⟩) hHeld ?_ ?_
  rotate_left
  · rintro w' ⟨s0,s1,s2,s3,s4,s5,s6,s7⟩
    go_simp
    with_reducible rfl
  rotate_left
  · simp only [Act.put,List.setIfInBounds_toArray,List.set_cons_zero,List.set_cons_succ,i64_w,i32_w]
    rfl
  refine one_ (i:=5) (N:=some 33) #[true,true,true,true,true,true,false,false,false,false,false] rfl rfl (by kernel_rfl) (by decide) (fun K hK => ?_)
  refine goes_ Tryd.func9 (by kernel_rfl) rfl #[.agg #[.int .i64 a0,.int .i64 a1,.int .i64 a2,.int .i64 a3,.int .i64 a4,.int .i64 a5,.int .i64 a6,.int .i64 a7],.slice (some ⟨go,0,none⟩) n co] (by rfl) rfl rfl (by simp only [List.map_toArray,List.map_cons,List.map_nil];try rfl) ?_
  with_reducible refine (HNd.out).mono ?_
  rintro e w5 ⟨rfl,hg⟩
  refine ⟨_,rfl,?_⟩
  have HG5:=Aside0.mk hg;have HB5:=Aside0.mk (blk_kept HBd.out hg (by simp));clear hg HNd
  refine hK.out _ _ ⟨cell_of HB5.out rfl,cell_of HB5.out rfl,cell_of HB5.out rfl,cell_of HB5.out rfl,cell_of HB5.out rfl,cell_of HB5.out rfl,cell_of HB5.out rfl,cell_of HB5.out rfl⟩ (fun hHeld => ?_)
  clear hK K
  refine norm_ (a':=?_) ?_ ?_
  rotate_left
  · show Act.put _ (some 33) _ = _
    simp only [Act.put,List.setIfInBounds_toArray,List.set_cons_zero,List.set_cons_succ,i64_w,i32_w]
    rfl
  refine pure_ (i:=6) (N:=some 27) (v:=?_) (a':=?_) #[true,true,true,true,true,true,true,false,false,false,false] rfl rfl (by kernel_rfl) (fun _ _ _ h => h) (Or.inl ⟨by rfl,?_⟩) ?_ ?_
  rotate_left
  · intro w'
    go_simp
    with_reducible rfl
  rotate_left
  · simp only [Act.put,List.setIfInBounds_toArray,List.set_cons_zero,List.set_cons_succ,i64_w,i32_w]
    rfl
  refine pure_ (i:=7) (N:=some 34) (v:=?_) (a':=?_) #[true,true,true,true,true,true,true,true,false,false,false] rfl rfl (by kernel_rfl) (fun _ _ _ h => h) (Or.inl ⟨by rfl,?_⟩) ?_ ?_
  rotate_left
  · intro w'
    go_simp
    with_reducible rfl
  rotate_left
  · simp only [Act.put,List.setIfInBounds_toArray,List.set_cons_zero,List.set_cons_succ,i64_w,i32_w]
    rfl
  refine pure_ (i:=8) (N:=some 35) (v:=?_) (a':=?_) #[true,true,true,true,true,true,true,true,true,false,false] rfl rfl (by kernel_rfl) (fun _ _ _ h => h) (Or.inl ⟨by rfl,?_⟩) ?_ ?_
  rotate_left
  · intro w'
    go_simp
    with_reducible rfl
  rotate_left
  · simp only [Act.put,List.setIfInBounds_toArray,List.set_cons_zero,List.set_cons_succ,i64_w,i32_w]
    rfl
  refine pure_ (i:=9) (N:=some 10) (v:=?_) (a':=?_) #[true,true,true,true,true,true,true,true,true,true,false] rfl rfl (by kernel_rfl) (fun _ _ _ h => h) (Or.inl ⟨by rfl,?_⟩) ?_ ?_
  rotate_left
  · intro w'
    go_simp
    with_reducible rfl
  rotate_left
  · simp only [Act.put,List.setIfInBounds_toArray,List.set_cons_zero,List.set_cons_succ,i64_w,i32_w]
    rfl
  refine pure_ (i:=10) (N:=some 11) (v:=?_) (a':=?_) #[true,true,true,true,true,true,true,true,true,true,true] rfl rfl (by kernel_rfl) (fun _ _ _ h => h) (Or.inl ⟨by rfl,?_⟩) ?_ ?_
  rotate_left
  · intro w'
    go_simp
    with_reducible rfl
  rotate_left
  · simp only [Act.put,List.setIfInBounds_toArray,List.set_cons_zero,List.set_cons_succ,i64_w,i32_w]
    rfl
  refine done_ (by kernel_rfl) ?_
  go_wp2_with fail
  have hy0 : w5.cell? ⟨w.heap.size,0,none⟩ = some (.int .i64 a0):=cell_of HB5.out rfl
  have hy1 : w5.cell? ⟨w.heap.size,1,none⟩ = some (.int .i64 a1):=cell_of HB5.out rfl
  have hy2 : w5.cell? ⟨w.heap.size,2,none⟩ = some (.int .i64 a2):=cell_of HB5.out rfl
  have hy3 : w5.cell? ⟨w.heap.size,3,none⟩ = some (.int .i64 a3):=cell_of HB5.out rfl
  have hy4 : w5.cell? ⟨w.heap.size,4,none⟩ = some (.int .i64 a4):=cell_of HB5.out rfl
  have hy5 : w5.cell? ⟨w.heap.size,5,none⟩ = some (.int .i64 a5):=cell_of HB5.out rfl
  have hy6 : w5.cell? ⟨w.heap.size,6,none⟩ = some (.int .i64 a6):=cell_of HB5.out rfl
  have hy7 : w5.cell? ⟨w.heap.size,7,none⟩ = some (.int .i64 a7):=cell_of HB5.out rfl
  go_wp2_with fail
  refine (HMM.out w5 D cd).mono ?_
  rintro e w6 ⟨rfl,hg⟩
  have HG6:=Aside0.mk (World.grownBy.trans HG5.out hg)
  have HWd:=Aside0.mk (World.grownBy.trans HW3.out (gb_drew w3 none))
  have HW6:=Aside0.mk (World.grownBy.trans HWd.out HG6.out)
  have HUs:=Aside0.mk (usages_calls w6 (some ⟨go,0,none⟩) D n co cd us us (HRo.out.gb HG6.out) (HX3.out.gb (World.grownBy.trans (gb_drew w3 none) HG6.out)) (by omega) hd)
  rw [decide_eq_true (rfl : us = us)] at HUs
  clear hg hy0 hy1 hy2 hy3 hy4 hy5 hy6 hy7
  go_wp2_with fail
  refine (HUs.out).mono ?_
  rintro e w7 ⟨rfl,hg⟩
  have HG7:=Aside0.mk (World.grownBy.trans HG6.out hg)
  have HW7:=Aside0.mk (below_of_gb (World.grownBy.trans HW6.out hg))
  have hc7:=HC7.out w7 HG7.out
  clear hg HUs
  go_wp2_with fail
  go_ret
  exact ⟨rfl,HW7.out⟩
end Go.Proofs.YtgjjfnjnjnbfgaaDoor.L
namespace Go.Proofs.YtgjjfnjnjnbfgaaDoor.L
open Go.RowKit Go.Proofs.YtgjjfnjnjnbfgaaDoorW.PrintWords Go.Proofs.YtgjjfnjnjnbfgaaDoorW.PrintLast Go.Proofs.YtgjjfnjnjnbfgaaDoor.H Go.Proofs.YtgjjfnjnjnbfgaaDoor.Q Go.Proofs.YtgjjfnjnjnbfgaaDoor.GLG
set_option linter.unusedVariables false
set_option linter.unusedSimpArgs false
theorem LedAt.mono {w : World} {B B' g : Nat} {A : Option Addr} {n c : Nat} {nodes factor : Int} {xs : List Int} (h : LedAt w B g A n c nodes factor xs) (hb : B' ≤ B) : LedAt w B' g A n c nodes factor xs:=
  ⟨h.blk,own_mono h.own hb,h.len,h.ne,Nat.le_trans hb h.base,h.val,h.fac,h.nod⟩
theorem RefAt.mono {w : World} {B B' g : Nat} {A : Option Addr} {n c : Nat} {k : Cf} {factor : Int} {xs : List Int} (h : RefAt w B g A n c k factor xs) (hb : B' ≤ B) : RefAt w B' g A n c k factor xs:=
  ⟨h.blk,own_mono h.own hb,h.len,h.ne,Nat.le_trans hb h.base,h.val,h.fac,h.nod⟩
theorem own_ptr (w : World) (B g : Nat) (e : TypeId) (hb : B ≤ w.heap.size) : (w.alloc (.cells #[.pointer (some ⟨g,0,none⟩)] e)).ownsRow B e Ep.sz (.slice (some ⟨w.heap.size,0,none⟩) 1 1) 1 (flat Ep [g]):=
  World.ownsRow_lit (e:=e) (size:=1) w #[.pointer (some ⟨g,0,none⟩)] 1 hb (by simp [maxLen]) (by simp)
theorem pool_init {w0 w : World} {cf : Cf} {factor : Int} {p : Pr} (hp : PrOk w w0.heap.size cf factor p) (hb : Below w0.heap.size w0 w) :
    Pool w0 ((w.alloc (.cells #[.pointer (some ⟨p.g,0,none⟩)] 29)).alloc (.cells #[.pointer (some ⟨p.h,0,none⟩)] 33)) cf factor w.heap.size 1 (w.heap.size + 1) 1 [p.g] [p.h] [p]:=by
  have e : (w.alloc (.cells #[.pointer (some ⟨p.g,0,none⟩)] 29)).heap.size = w.heap.size + 1:=by simp
  rw [← e]
  have h1:=World.grownBy_alloc w (.cells #[.pointer (some ⟨p.g,0,none⟩)] 29) none
  have h2:=World.grownBy_alloc (w.alloc (.cells #[.pointer (some ⟨p.g,0,none⟩)] 29)) (.cells #[.pointer (some ⟨p.h,0,none⟩)] 33) none
  have hat : ∀ (i : Nat) (q : Pr),[p][i]? = some q → i = 0 ∧ q = p:=fun i q hq => by
    cases i with
    | zero => exact ⟨rfl,by simpa using hq.symm⟩
    | succ i => simp at hq
  refine ⟨fun i q hq => ?_,fun i j q r hij hq hr => ?_,own_kept (own_ptr w _ _ 29 hb.size) h2 (by simp),own_ptr _ _ _ 33 (by have:=hb.size;simp;omega),by simp,fun i q hq k hk => ?_,below_gb hb (World.grownBy.trans h1 h2) hb.size (by simp)⟩
  · rw [(hat i q hq).2];exact (hp.gb h1).gb h2
  · exact absurd ((hat i q hq).1.trans (hat j r hr).1.symm) hij
  · rw [(hat i q hq).2] at hk
    have:=(hp.foot k hk).2
    simp
    omega
theorem map_set_same {f : Pr → Nat} {ps : List Pr} {i : Nat} {p p2 : Pr} (h : ps[i]? = some p) (e : f p2 = f p) : (ps.set i p2).map f = ps.map f:=by
  rw [List.map_set,e]
  have hl : i < (ps.map f).length:=by have:=(List.getElem?_eq_some_iff.1 h).1;simpa using this
  have : (ps.map f)[i] = f p:=by
    have h2 : (ps.map f)[i]? = some (f p):=by rw [List.getElem?_map,h];rfl
    rw [List.getElem?_eq_getElem hl] at h2
    exact Option.some.inj h2
  rw [← this]
  exact List.set_getElem_self hl
theorem acted_keeps {w w' : World} {B : Nat} {cf : Cf} {factor : Int} {p : Pr} {b : Nat} {o : Obj} (h : Acted w B cf factor p w') (hb : w.heap[b]? = some o) (hn : ¬ PF p b) : w'.heap[b]? = some o:=by
  obtain ⟨_,_,_,_,ht,_⟩:=h
  exact blk_tn hb ht hn
section
variable {w0 w : World} {cf : Cf} {factor : Int} {gl cl gr cr : Nat} {gs hs : List Nat} {ps : List Pr} {i : Nat} {p p2 : Pr}
theorem set_at (hi : ps[i]? = some p) : (ps.set i p2)[i]? = some p2:=by
  rw [List.getElem?_set,if_pos rfl,if_pos (List.getElem?_eq_some_iff.1 hi).1]
theorem pool_same1 (h : Pool w0 w cf factor gl cl gr cr gs hs ps) (hi : ps[i]? = some p) : Calls Tryd.prog 16 #[.pointer (some ⟨p.g,0,none⟩),.pointer (some ⟨p.h,0,none⟩)] w fun e w' => e = .returned (.bool true) ∧ w.grownBy w' none:=
  have ok:=h.ok i p hi
  same_calls w _ p.g p.A p.xs.length p.c _ _ p.xs _ p.h p.D p.d _ _ ok.a ok.b ok.le
theorem pool_same (h : Pool w0 w cf factor gl cl gr cr gs hs (ps.set i p2)) (hi : ps[i]? = some p) (e1 : p2.g = p.g) (e2 : p2.h = p.h) : Calls Tryd.prog 16 #[.pointer (some ⟨p.g,0,none⟩),.pointer (some ⟨p.h,0,none⟩)] w fun e w' => e = .returned (.bool true) ∧ w.grownBy w' none:=by
  rw [← e1,← e2]
  exact pool_same1 h (set_at hi)
theorem pool_sum {E : Option Addr} {ns ce : Nat} {acc : List Int} (h : Pool w0 w cf factor gl cl gr cr gs hs (ps.set i p2)) (hi : ps[i]? = some p) (e1 : p2.g = p.g) (hr : Rd (Ei .i64) w E ns acc) : Calls Tryd.prog 17 #[.pointer (some ⟨p.g,0,none⟩),.slice E ns ce] w fun e w' => e = .returned (.int .u64 (sumV p2.xs acc)) ∧ w.grownBy w' none:=by
  rw [← e1]
  exact Sum_calls w _ p2.g p2.A p2.xs.length p2.c _ _ p2.xs E ns ce acc (h.ok i p2 (set_at hi)).a hr
theorem pool_rsum {E : Option Addr} {ns ce : Nat} {acc : List Int} (h : Pool w0 w cf factor gl cl gr cr gs hs (ps.set i p2)) (hi : ps[i]? = some p) (e2 : p2.h = p.h) (hr : Rd (Ei .i64) w E ns acc) : Calls Tryd.prog 18 #[.pointer (some ⟨p.h,0,none⟩),.slice E ns ce] w fun e w' => e = .returned (.int .u64 (sumV p2.xs acc)) ∧ w.grownBy w' none:=by
  rw [← e2]
  exact rSum_calls w _ p2.h p2.D p2.xs.length p2.d _ _ p2.xs E ns ce acc (h.ok i p2 (set_at hi)).b hr
end
set_option maxHeartbeats 8000000 in
set_option maxRecDepth 100000 in
theorem Script_ok (w : World) (hL : LaidW w) (a0 a1 a2 a3 a4 a5 a6 a7 : Int) (D : Option Addr) (n cd : Nat) (us : List Int) (hx : Rd (Ei .u64) w D n us) (hd : n ≤ cd) (hs2 : n * 8 ≤ 140737488351232) (hu : ∀ x ∈ us,U x) (A : Option Addr) (na c : Nat) (ls : List (Int × Int × Int × Int)) (hr : Acts w A na ls) (hna : na * 32 ≤ 140737488351232) (E : Option Addr) (ns ce : Nat) (acc : List Int) (hq : Rd (Ei .i64) w E ns acc)
    (hk : checkV a0 a1 a2 a3 a4 a5 a6 a7 = 0) (hn : n ≤ 64) :
    Calls Tryd.prog 3 #[.agg #[.int .i64 a0,.int .i64 a1,.int .i64 a2,.int .i64 a3,.int .i64 a4,.int .i64 a5,.int .i64 a6,.int .i64 a7],.slice D n cd,.slice A na c,.slice E ns ce] w fun e w' => e = .returned (.bool true) ∧ Below w.heap.size w w':=by
  have HC:=chk_cfg hk
  have hn0 : 1 ≤ a0:=HC.n0
  have hn1 : a0 ≤ 256:=HC.n1
  have HF2:=Aside0.mk (fact_ok HC)
  have HFU:=Aside0.mk (factU a6 a7)
  have HK:=Aside0.mk hk
  have HUv:=Aside0.mk hu
  have HAc:=Aside0.mk hr
  have HSm:=Aside0.mk hq
  clear HC hk hu hr hq
  have HB0:=Aside0.mk (heap_alloc_new w (.cells #[.int .i64 a0,.int .i64 a1,.int .i64 a2,.int .i64 a3,.int .i64 a4,.int .i64 a5,.int .i64 a6,.int .i64 a7] 23))
  have HG0:=Aside0.mk (World.grownBy_alloc w (.cells #[.int .i64 a0,.int .i64 a1,.int .i64 a2,.int .i64 a3,.int .i64 a4,.int .i64 a5,.int .i64 a6,.int .i64 a7] 23) none)
  have HL:=Aside0.mk hL
  have HX:=Aside0.mk hx
  have HLn:=Aside0.mk hx.1
  clear hL hx
  go_enter Tryd.func3,Tryd.ntmps3
  go_wp2_with fail
  refine (shown_calls _ (laid_below HL.out (below_of_gb HG0.out))).mono ?_
  rintro e w1 ⟨rfl,hb⟩
  have HB1:=Aside0.mk (blk_kept HB0.out (gb_of_below hb none) (by simp))
  have HG1:=Aside0.mk (World.grownBy.trans HG0.out (gb_of_below hb none))
  have HX1:=Aside0.mk (HX.out.gb HG1.out)
  have HN1:=Aside0.mk (show w1.ownsRow w1.heap.size 28 (Ei .u64).sz (.slice none 0 0) 0 (flat (Ei .u64) []) from own_nil _ _ _ _)
  clear hb HB0 HG0
  go_wp2_with (first | (at_builtin;refine app (Ei .u64) w1.heap.size rfl (.const (.slice none 0 0)) (.tmp 23) 24 28 (.int .u64 0) 8 rfl Tryd.underlying24 (by kernel_rfl) rfl (by decide) _ 0 [] us _ n _ rfl rfl rfl HN1.out HX1.out (Nat.le_refl _) (by omega) ?_;intro v2 w2 ho hg hn2;rw [Nat.zero_add,List.nil_append] at ho;have hg2 : w1.grownBy w2 none:=hg;have HO2:=Aside0.mk (own_kept ho (World.grownBy_alloc w2 (.cells #[.int .u64 7] 28) none) (by simp));have HG2:=Aside0.mk (World.grownBy.trans hg2 (World.grownBy_alloc w2 (.cells #[.int .u64 7] 28) none));have HR2:=Aside0.mk (show Rd (Ei .u64) (w2.alloc (.cells #[.int .u64 7] 28)) (some ⟨w2.heap.size,0,none⟩) 1 [7] from rd_lit (Ei .u64) w2 28 [7] (by simp));have HS2:=Aside0.mk HG2.out.size;clear ho hg hn2 hg2) | (at_builtin;refine app_at (Ei .u64) w1.heap.size rfl (.tmp 24) (.tmp 25) 24 28 (.int .u64 0) 8 rfl Tryd.underlying24 (by kernel_rfl) rfl (by decide) _ n us [7] ⟨w2.heap.size,0,none⟩ 1 1 rfl rfl HO2.out HR2.out HS2.out (by omega) ?_;intro v3 w3 ho hg hat;have HG3:=Aside0.mk (gb_own2 HG2.out HO2.out hg (Nat.le_refl _));obtain ⟨go,co,rfl,hgo,hgo2⟩:=ho.form (by omega);have HO3:=Aside0.mk ho;have HB3:=Aside0.mk (blk_kept HB1.out HG3.out (by simp));have HW3:=Aside0.mk (World.grownBy.trans HG1.out HG3.out);have HX3:=Aside0.mk (HX1.out.gb HG3.out);have hco : n + 1 ≤ co:=(own_form ho).1;clear ho hg hat HO2 HG2 HR2 HS2 HN1))
  obtain ⟨i3,hi3,hz0,hz1,hz2⟩:=info_parts (show (Tryd.prog.info? 28).map (fun i => (i.zero,i.size,i.bytes)) = some (some (.int .u64 0),1,8) by kernel_rfl)
  have hcut:=cut_to (P:=Tryd.prog) 24 28 .i64 Tryd.underlying24 hi3 (some ⟨go,0,none⟩) (n + 1) co (n : Int) (by omega) (by omega) hco
  rw [Int.toNat_natCast] at hcut
  have HOd:=Aside0.mk (own_kept (row:=none) HO3.out (gb_drew w3 none) (by simp))
  have hol : (us ++ [7]).length = n + 1:=by rw [List.length_append,HLn.out];rfl
  have HRo:=Aside0.mk (show Rd (Ei .u64) w3.drew (some ⟨go,0,none⟩) n us from (by have h:=(own_rd hol HOd.out).take_ n (by omega);have e : (us ++ [7]).take n = us:=List.take_left' HLn.out;rw [e] at h;exact h))
  have HBd:=Aside0.mk (show w3.drew.heap[w.heap.size]? = some (.cells #[.int .i64 a0,.int .i64 a1,.int .i64 a2,.int .i64 a3,.int .i64 a4,.int .i64 a5,.int .i64 a6,.int .i64 a7] 23) from HB3.out)
  have hcl7 : ∀ W : World,w3.drew.grownBy W none → W.cell? ⟨go,n,none⟩ = some (.int .u64 7):=fun W hg => by
    have h:=own_cell (own_kept (row:=none) HOd.out hg (by simp)) n 0 7 (by rw [List.getElem?_append_right (by rw [HLn.out];exact Nat.le_refl _),HLn.out,Nat.sub_self];rfl) (by decide) (.int .u64 7) rfl
    simpa [Ei] using h
  have HC7:=Aside0.mk hcl7
  clear hi3 hz0 hz1 hz2 hcl7 hol
  have HWd:=Aside0.mk (World.grownBy.trans HW3.out (gb_drew w3 none))
  have HNd0:=New_ok w3.drew (laid_below HL.out (below_of_gb HWd.out)) a0 a1 a2 a3 a4 a5 a6 a7 (some ⟨go,0,none⟩) n co us HK.out hn HRo.out HUv.out (by omega) (by omega) HFU.out
  rw [HF2.out] at HNd0
  have HNd:=Aside0.mk HNd0
  clear HNd0
  go_wp2_with fail
  refine start_ (n:=11) (S:=fun w' => w'.cell? ⟨w.heap.size,0,none⟩ = some (.int .i64 a0) ∧ w'.cell? ⟨w.heap.size,1,none⟩ = some (.int .i64 a1) ∧ w'.cell? ⟨w.heap.size,2,none⟩ = some (.int .i64 a2) ∧ w'.cell? ⟨w.heap.size,3,none⟩ = some (.int .i64 a3) ∧ w'.cell? ⟨w.heap.size,4,none⟩ = some (.int .i64 a4) ∧ w'.cell? ⟨w.heap.size,5,none⟩ = some (.int .i64 a5) ∧ w'.cell? ⟨w.heap.size,6,none⟩ = some (.int .i64 a6) ∧ w'.cell? ⟨w.heap.size,7,none⟩ = some (.int .i64 a7)) (ds:=[]) #[false,false,false,false,false,false,false,false,false,false,false] (by kernel_rfl) rfl rfl ⟨cell_of HBd.out rfl,cell_of HBd.out rfl,cell_of HBd.out rfl,cell_of HBd.out rfl,cell_of HBd.out rfl,cell_of HBd.out rfl,cell_of HBd.out rfl,cell_of HBd.out rfl⟩ (fun hHeld => ?_)
  refine pure_ (i:=1) (N:=some 29) (v:=?_) (a':=?_) #[false,true,false,false,false,false,false,false,false,false,false] rfl rfl (by kernel_rfl) (fun _ _ _ h => h) (Or.inl ⟨by rfl,?_⟩) ?_ ?_
  rotate_left
  · intro w'
    go_simp
    with_reducible rfl
  rotate_left
  · simp only [Act.put,List.setIfInBounds_toArray,List.set_cons_zero,List.set_cons_succ,i64_w,i32_w]
    rfl
  refine pure_ (i:=2) (N:=some 30) (v:=?_) (a':=?_) #[false,true,true,false,false,false,false,false,false,false,false] rfl rfl (by kernel_rfl) (fun _ _ _ h => h) (Or.inl ⟨by rfl,?_⟩) ?_ ?_
  rotate_left
  · intro w'
    go_simp
    with_reducible rfl
  rotate_left
  · simp only [Act.put,List.setIfInBounds_toArray,List.set_cons_zero,List.set_cons_succ,i64_w,i32_w]
    rfl
  refine pure_ (i:=3) (N:=some 31) (v:=?_) (a':=?_) #[false,true,true,true,false,false,false,false,false,false,false] rfl rfl (by kernel_rfl) (fun _ _ _ h => h) (Or.inl ⟨by rfl,?_⟩) ?_ ?_
  rotate_left
  · intro w'
    go_simp
    with_reducible rfl
  rotate_left
  · simp only [Act.put,List.setIfInBounds_toArray,List.set_cons_zero,List.set_cons_succ,i64_w,i32_w]
    rfl
  refine pure_ (i:=4) (N:=some 32) (v:=?_) (a':=?_) #[false,true,true,true,true,false,false,false,false,false,false] rfl rfl (by kernel_rfl) (fun _ _ _ h => h) (Or.inl ⟨by rfl,?_⟩) ?_ ?_
  rotate_left
  · intro w'
    go_simp
    with_reducible rfl
  rotate_left
  · simp only [Act.put,List.setIfInBounds_toArray,List.set_cons_zero,List.set_cons_succ,i64_w,i32_w]
    rfl
  refine take_ (i:=0) (N:=some 28) (v:=?_) (a':=?_) #[true,true,true,true,true,false,false,false,false,false,false] rfl rfl (by kernel_rfl) (fun _ _ _ h => h) (Or.inl ⟨by rfl,?_⟩) hHeld ?_ ?_
  rotate_left
  · rintro w' ⟨s0,s1,s2,s3,s4,s5,s6,s7⟩
    go_simp
    with_reducible rfl
  rotate_left
  · simp only [Act.put,List.setIfInBounds_toArray,List.set_cons_zero,List.set_cons_succ,i64_w,i32_w]
    rfl
  refine one_ (i:=5) (N:=some 33) #[true,true,true,true,true,true,false,false,false,false,false] rfl rfl (by kernel_rfl) (by decide) (fun K hK => ?_)
  refine goes_ Tryd.func9 (by kernel_rfl) rfl #[.agg #[.int .i64 a0,.int .i64 a1,.int .i64 a2,.int .i64 a3,.int .i64 a4,.int .i64 a5,.int .i64 a6,.int .i64 a7],.slice (some ⟨go,0,none⟩) n co] (by rfl) rfl rfl (by simp only [List.map_toArray,List.map_cons,List.map_nil];try rfl) ?_
  with_reducible refine (HNd.out).mono ?_
  rintro e w5 ⟨g,Ag,cg,rfl,hl,hg⟩
  refine ⟨_,rfl,?_⟩
  have HLg5:=Aside0.mk hl;have HG5:=Aside0.mk hg;have HB5:=Aside0.mk (blk_kept HBd.out hg (by simp));clear hg hl HNd
  refine hK.out _ _ ⟨cell_of HB5.out rfl,cell_of HB5.out rfl,cell_of HB5.out rfl,cell_of HB5.out rfl,cell_of HB5.out rfl,cell_of HB5.out rfl,cell_of HB5.out rfl,cell_of HB5.out rfl⟩ (fun hHeld => ?_)
  clear hK K
  refine norm_ (a':=?_) ?_ ?_
  rotate_left
  · show Act.put _ (some 33) _ = _
    simp only [Act.put,List.setIfInBounds_toArray,List.set_cons_zero,List.set_cons_succ,i64_w,i32_w]
    rfl
  refine pure_ (i:=6) (N:=some 27) (v:=?_) (a':=?_) #[true,true,true,true,true,true,true,false,false,false,false] rfl rfl (by kernel_rfl) (fun _ _ _ h => h) (Or.inl ⟨by rfl,?_⟩) ?_ ?_
  rotate_left
  · intro w'
    go_simp
    with_reducible rfl
  rotate_left
  · simp only [Act.put,List.setIfInBounds_toArray,List.set_cons_zero,List.set_cons_succ,i64_w,i32_w]
    rfl
  refine pure_ (i:=7) (N:=some 34) (v:=?_) (a':=?_) #[true,true,true,true,true,true,true,true,false,false,false] rfl rfl (by kernel_rfl) (fun _ _ _ h => h) (Or.inl ⟨by rfl,?_⟩) ?_ ?_
  rotate_left
  · intro w'
    go_simp
    with_reducible rfl
  rotate_left
  · simp only [Act.put,List.setIfInBounds_toArray,List.set_cons_zero,List.set_cons_succ,i64_w,i32_w]
    rfl
  refine pure_ (i:=8) (N:=some 35) (v:=?_) (a':=?_) #[true,true,true,true,true,true,true,true,true,false,false] rfl rfl (by kernel_rfl) (fun _ _ _ h => h) (Or.inl ⟨by rfl,?_⟩) ?_ ?_
  rotate_left
  · intro w'
    go_simp
    with_reducible rfl
  rotate_left
  · simp only [Act.put,List.setIfInBounds_toArray,List.set_cons_zero,List.set_cons_succ,i64_w,i32_w]
    rfl
  refine pure_ (i:=9) (N:=some 10) (v:=?_) (a':=?_) #[true,true,true,true,true,true,true,true,true,true,false] rfl rfl (by kernel_rfl) (fun _ _ _ h => h) (Or.inl ⟨by rfl,?_⟩) ?_ ?_
  rotate_left
  · intro w'
    go_simp
    with_reducible rfl
  rotate_left
  · simp only [Act.put,List.setIfInBounds_toArray,List.set_cons_zero,List.set_cons_succ,i64_w,i32_w]
    rfl
  refine pure_ (i:=10) (N:=some 11) (v:=?_) (a':=?_) #[true,true,true,true,true,true,true,true,true,true,true] rfl rfl (by kernel_rfl) (fun _ _ _ h => h) (Or.inl ⟨by rfl,?_⟩) ?_ ?_
  rotate_left
  · intro w'
    go_simp
    with_reducible rfl
  rotate_left
  · simp only [Act.put,List.setIfInBounds_toArray,List.set_cons_zero,List.set_cons_succ,i64_w,i32_w]
    rfl
  refine done_ (by kernel_rfl) ?_
  go_wp2_with fail
  have hy0 : w5.cell? ⟨w.heap.size,0,none⟩ = some (.int .i64 a0):=cell_of HB5.out rfl
  have hy1 : w5.cell? ⟨w.heap.size,1,none⟩ = some (.int .i64 a1):=cell_of HB5.out rfl
  have hy2 : w5.cell? ⟨w.heap.size,2,none⟩ = some (.int .i64 a2):=cell_of HB5.out rfl
  have hy3 : w5.cell? ⟨w.heap.size,3,none⟩ = some (.int .i64 a3):=cell_of HB5.out rfl
  have hy4 : w5.cell? ⟨w.heap.size,4,none⟩ = some (.int .i64 a4):=cell_of HB5.out rfl
  have hy5 : w5.cell? ⟨w.heap.size,5,none⟩ = some (.int .i64 a5):=cell_of HB5.out rfl
  have hy6 : w5.cell? ⟨w.heap.size,6,none⟩ = some (.int .i64 a6):=cell_of HB5.out rfl
  have hy7 : w5.cell? ⟨w.heap.size,7,none⟩ = some (.int .i64 a7):=cell_of HB5.out rfl
  go_wp2_with fail
  refine (rNew_ok w5 a0 a1 a2 a3 a4 a5 a6 a7 D n cd us HK.out hn (HX3.out.gb (World.grownBy.trans (gb_drew w3 none) HG5.out)) HUv.out (by omega) (by omega) HFU.out).mono ?_
  rintro e w6 ⟨h,Dh,dh,rfl,hl,hg⟩
  have hgap : Aside0 (∀ k,Foot g Ag k → w3.heap.size ≤ k ∧ k < w5.heap.size):=⟨fun k hk => HLg5.out.foot k hk⟩
  have HLh6:=Aside0.mk hl
  have HLg6:=Aside0.mk (HLg5.out.gb hg)
  have HG6:=Aside0.mk (World.grownBy.trans HG5.out hg)
  have HW6:=Aside0.mk (World.grownBy.trans HWd.out HG6.out)
  have hS5 : w3.heap.size ≤ w5.heap.size:=(World.grownBy.trans (gb_drew w3 none) HG5.out).size
  have HUs:=Aside0.mk (usages_calls w6 (some ⟨go,0,none⟩) D n co cd us us (HRo.out.gb HG6.out) (HX3.out.gb (World.grownBy.trans (gb_drew w3 none) HG6.out)) (by omega) hd)
  rw [decide_eq_true (rfl : us = us)] at HUs
  have hrr : ((0 : Int) != 0) = false:=rfl
  clear hg hl hy0 hy1 hy2 hy3 hy4 hy5 hy6 hy7 HLg5
  go_wp2_with fail
  refine (HUs.out).mono ?_
  rintro e w7 ⟨rfl,hg⟩
  have HG7:=Aside0.mk (World.grownBy.trans HG6.out hg)
  have HW7:=Aside0.mk (World.grownBy.trans HW6.out hg)
  have hc7:=HC7.out w7 HG7.out
  have HLg7:=Aside0.mk ((HLg6.out.gb hg).mono HWd.out.size)
  have HLh7:=Aside0.mk ((HLh6.out.gb hg).mono (World.grownBy.trans HWd.out HG5.out).size)
  have hhap : Aside0 (∀ k,Foot h Dh k → w5.heap.size ≤ k):=⟨fun k hk => (HLh6.out.foot k hk).1⟩
  have HO7:=Aside0.mk (own_kept HOd.out HG7.out (by simp))
  clear hg HUs HG6 HW6 HLg6
  go_wp2_with fail
  go_loopg [73] (n + 1) (fun k v73 wr => ∃ j : Nat,v73 = .int .i64 j ∧ Aside0 (j + k = n + 1) ∧ j ≤ n + 1 ∧ Aside0 (∃ zs : List Int,zs.length = n + 1 ∧ wr.ownsRow w1.heap.size 28 (Ei .u64).sz (.slice (some ⟨go,0,none⟩) (n + 1) co) (n + 1) (flat (Ei .u64) zs)) ∧ Aside0 (w7.grownBy wr (some go)))
  case atStart => exact ⟨0,rfl,⟨by omega⟩,by omega,⟨⟨_,by rw [List.length_append,HLn.out];rfl,HO7.out⟩⟩,⟨gb_refl _ _⟩⟩
  case round =>
    obtain ⟨j,rfl,HD,hj,HZ,HG8⟩:=hrel
    cases gk with
    | zero =>
      obtain rfl : j = n + 1:=by have:=HD.out;omega
      obtain ⟨w8,rfl⟩ : ∃ w8,w8 = wr:=⟨wr,rfl⟩
      have hb1 : decide (((n + 1 : Nat) : Int) < ((n + 1 : Nat) : Int)) = false:=decide_eq_false (by omega)
      have hb2 : decide ((n : Int) + 1 < (n : Int) + 1) = false:=decide_eq_false (by omega)
      have hlow : w.heap.size ≤ go:=by have:=HG1.out.size;omega
      have HLg8:=Aside0.mk (HLg7.out.tn (Tn.of_gb HG8.out (F:=fun k => k = go) (fun k hk => by cases hk;rfl)) (fun k hk he => by have:=hgap.out k hk;omega))
      have HLh8:=Aside0.mk (HLh7.out.tn (Tn.of_gb HG8.out (F:=fun k => k = go) (fun k hk => by cases hk;rfl)) (fun k hk he => by have:=hhap.out k hk;omega))
      obtain ⟨F,hF⟩ : ∃ F,F = (factV a6 a7).1:=⟨_,rfl⟩
      obtain ⟨cf,hcf⟩ : ∃ cf : Cf,cf = ⟨a0,a1,a2,a3,a4,a5,a6,a7⟩:=⟨_,rfl⟩
      have HP8 : Aside0 (PrOk w8 w.heap.size cf F ⟨g,Ag,cg,h,Dh,dh,us⟩):=⟨by
        refine ⟨?_,?_,fun k h1 h2 => ?_,by show us.length ≤ 200;rw [HLn.out];omega⟩
        · show LedAt w8 w.heap.size g Ag us.length cg cf.a0 F us
          rw [HLn.out,hF,hcf];exact HLg8.out
        · show RefAt w8 w.heap.size h Dh us.length dh cf F us
          rw [HLn.out,hF,hcf];exact HLh8.out
        · have h3:=hgap.out k h1;have h4:=hhap.out k h2;omega⟩
      have HB8:=Aside0.mk (below_gb (below_of_gb HW7.out) HG8.out HW7.out.size (fun k hk => by cases hk;exact hlow))
      have HPl:=Aside0.mk (pool_init HP8.out HB8.out)
      clear hF hcf HLg8 HLh8 HP8 HB8 HZ HG8 HD HLg7 HLh7 hgap hhap HO7 HG7 HW7 hc7 HC7 HOd HRo HBd hcut HX3 HB3 HO3 HG3 HW3 HG5 HWd HB5 HX1 HB1 HG1 HX HL hrr
      go_wp2_with fail
      go_loopg [15,16,86] na (fun k v15 v16 v86 wr => ∃ (j gl cl gr cr m : Nat) (ps : List Pr),v15 = .slice (some ⟨gl,0,none⟩) m cl ∧ v16 = .slice (some ⟨gr,0,none⟩) m cr ∧ v86 = .int .i64 j ∧ Aside0 (j + k = na) ∧ j ≤ na ∧ 1 ≤ m ∧ m ≤ 5 ∧ Aside0 (ps.length = m) ∧ Aside0 (Pool w wr cf F gl cl gr cr (ps.map Pr.g) (ps.map Pr.h) ps))
      case atStart => exact ⟨0,_,1,_,1,1,[⟨g,Ag,cg,h,Dh,dh,us⟩],rfl,rfl,rfl,⟨by omega⟩,by omega,by omega,by omega,⟨rfl⟩,HPl⟩
      case round =>
        obtain ⟨j,gl,cl,gr,cr,m,ps,rfl,rfl,rfl,HD,hj,hm1,hm5,HM,HPw⟩:=hrel
        cases gk with
        | zero =>
          obtain rfl : j = na:=by have:=HD.out;omega
          obtain ⟨w9,rfl⟩ : ∃ w9,w9 = wr:=⟨wr,rfl⟩
          have hb3 : decide ((j : Int) < j) = false:=decide_eq_false (by omega)
          go_wp2_with fail
          go_loopg [170] m (fun k v170 wi => ∃ kc : Nat,v170 = .int .i64 kc ∧ Aside0 (kc + k = m) ∧ kc ≤ m ∧ Aside0 (Pool w wi cf F gl cl gr cr (ps.map Pr.g) (ps.map Pr.h) ps))
          case atStart => exact ⟨0,rfl,⟨by omega⟩,by omega,HPw⟩
          case round =>
            obtain ⟨kc,rfl,HDi,hi,HPi⟩:=hrel
            cases gk with
            | zero =>
              obtain rfl : kc = m:=by have:=HDi.out;omega
              have hb4 : decide ((kc : Int) < kc) = false:=decide_eq_false (by omega)
              go_wp2_with fail
              go_ret
              exact ⟨rfl,HPi.out.bel⟩
            | succ d =>
              have hlt : kc < m:=by have:=HDi.out;omega
              have hb4 : decide ((kc : Int) < m) = true:=decide_eq_true (by omega)
              obtain ⟨p,hkp⟩ : ∃ p,ps[kc]? = some p:=⟨ps[kc]'(by rw [HM.out];exact hlt),List.getElem?_eq_getElem _⟩
              have hgi : (ps.map Pr.g)[kc]? = some p.g:=by rw [List.getElem?_map,hkp];rfl
              have hhi : (ps.map Pr.h)[kc]? = some p.h:=by rw [List.getElem?_map,hkp];rfl
              have HPd:=Aside0.mk (HPi.out.gb (gb_drew wr none))
              have HSa:=Aside0.mk (pool_same1 HPd.out hkp)
              have hk1 : (kc : Int) < (m : Int):=by omega
              have hk0 : (0 : Int) ≤ (kc : Int):=by omega
              go_wp2_with fail
              refine start_ (n:=17) (S:=fun w' => w'.cell? ⟨gl,kc,none⟩ = some (.pointer (some ⟨p.g,0,none⟩)) ∧ w'.cell? ⟨gr,kc,none⟩ = some (.pointer (some ⟨p.h,0,none⟩))) (ds:=[]) #[false,false,false,false,false,false,false,false,false,false,false,false,false,false,false,false,false] (by kernel_rfl) rfl rfl ⟨HPd.out.cl_ kc p.g hgi,HPd.out.cr_ kc p.h hhi⟩ (fun hHeld => ?_)
              refine pure_ (i:=0) (N:=some 173) (v:=?_) (a':=?_) #[true,false,false,false,false,false,false,false,false,false,false,false,false,false,false,false,false] rfl rfl (by kernel_rfl) (fun _ _ _ h => h) (Or.inl ⟨by rfl,?_⟩) ?_ ?_
              rotate_left
              · intro w'
                go_simp
                with_reducible rfl
              rotate_left
              · simp only [Act.put,List.setIfInBounds_toArray,List.set_cons_zero,List.set_cons_succ,i64_w,i32_w]
                rfl
              refine pure_ (i:=1) (N:=some 174) (v:=?_) (a':=?_) #[true,true,false,false,false,false,false,false,false,false,false,false,false,false,false,false,false] rfl rfl (by kernel_rfl) (fun _ _ _ h => h) (Or.inl ⟨by rfl,?_⟩) ?_ ?_
              rotate_left
              · intro w'
                go_simp
                with_reducible rfl
              rotate_left
              · simp only [Act.put,List.setIfInBounds_toArray,List.set_cons_zero,List.set_cons_succ,i64_w,i32_w]
                rfl
              refine pure_ (i:=2) (N:=some 175) (v:=?_) (a':=?_) #[true,true,true,false,false,false,false,false,false,false,false,false,false,false,false,false,false] rfl rfl (by kernel_rfl) (fun _ _ _ h => h) (Or.inl ⟨by rfl,?_⟩) ?_ ?_
              rotate_left
              · intro w'
                go_simp
                with_reducible rfl
              rotate_left
              · simp only [Act.put,List.setIfInBounds_toArray,List.set_cons_zero,List.set_cons_succ,i64_w,i32_w]
                rfl
              refine take_ (i:=3) (N:=some 176) (v:=?_) (a':=?_) #[true,true,true,true,false,false,false,false,false,false,false,false,false,false,false,false,false] rfl rfl (by kernel_rfl) (fun _ _ _ h => h) (Or.inl ⟨by rfl,?_⟩) hHeld ?_ ?_
              rotate_left
              · rintro w' ⟨s0,s1⟩
                go_simp
                with_reducible rfl
              rotate_left
              · simp only [Act.put,List.setIfInBounds_toArray,List.set_cons_zero,List.set_cons_succ,i64_w,i32_w]
                rfl
              refine pure_ (i:=4) (N:=some 177) (v:=?_) (a':=?_) #[true,true,true,true,true,false,false,false,false,false,false,false,false,false,false,false,false] rfl rfl (by kernel_rfl) (fun _ _ _ h => h) (Or.inl ⟨by rfl,?_⟩) ?_ ?_
              rotate_left
              · intro w'
                go_simp
                with_reducible rfl
              rotate_left
              · simp only [Act.put,List.setIfInBounds_toArray,List.set_cons_zero,List.set_cons_succ,i64_w,i32_w]
                rfl
              refine pure_ (i:=5) (N:=some 178) (v:=?_) (a':=?_) #[true,true,true,true,true,true,false,false,false,false,false,false,false,false,false,false,false] rfl rfl (by kernel_rfl) (fun _ _ _ h => h) (Or.inl ⟨by rfl,?_⟩) ?_ ?_
              rotate_left
              · intro w'
                go_simp
                with_reducible rfl
              rotate_left
              · simp only [Act.put,List.setIfInBounds_toArray,List.set_cons_zero,List.set_cons_succ,i64_w,i32_w]
                rfl
              refine pure_ (i:=6) (N:=some 179) (v:=?_) (a':=?_) #[true,true,true,true,true,true,true,false,false,false,false,false,false,false,false,false,false] rfl rfl (by kernel_rfl) (fun _ _ _ h => h) (Or.inl ⟨by rfl,?_⟩) ?_ ?_
              rotate_left
              · intro w'
                go_simp
                with_reducible rfl
              rotate_left
              · simp only [Act.put,List.setIfInBounds_toArray,List.set_cons_zero,List.set_cons_succ,i64_w,i32_w]
                rfl
              refine pure_ (i:=7) (N:=some 180) (v:=?_) (a':=?_) #[true,true,true,true,true,true,true,true,false,false,false,false,false,false,false,false,false] rfl rfl (by kernel_rfl) (fun _ _ _ h => h) (Or.inl ⟨by rfl,?_⟩) ?_ ?_
              rotate_left
              · intro w'
                go_simp
                with_reducible rfl
              rotate_left
              · simp only [Act.put,List.setIfInBounds_toArray,List.set_cons_zero,List.set_cons_succ,i64_w,i32_w]
                rfl
              refine pure_ (i:=8) (N:=some 181) (v:=?_) (a':=?_) #[true,true,true,true,true,true,true,true,true,false,false,false,false,false,false,false,false] rfl rfl (by kernel_rfl) (fun _ _ _ h => h) (Or.inl ⟨by rfl,?_⟩) ?_ ?_
              rotate_left
              · intro w'
                go_simp
                with_reducible rfl
              rotate_left
              · simp only [Act.put,List.setIfInBounds_toArray,List.set_cons_zero,List.set_cons_succ,i64_w,i32_w]
                rfl
              refine pure_ (i:=10) (N:=some 183) (v:=?_) (a':=?_) #[true,true,true,true,true,true,true,true,true,false,true,false,false,false,false,false,false] rfl rfl (by kernel_rfl) (fun _ _ _ h => h) (Or.inl ⟨by rfl,?_⟩) ?_ ?_
              rotate_left
              · intro w'
                go_simp
                with_reducible rfl
              rotate_left
              · simp only [Act.put,List.setIfInBounds_toArray,List.set_cons_zero,List.set_cons_succ,i64_w,i32_w]
                rfl
              refine pure_ (i:=11) (N:=some 184) (v:=?_) (a':=?_) #[true,true,true,true,true,true,true,true,true,false,true,true,false,false,false,false,false] rfl rfl (by kernel_rfl) (fun _ _ _ h => h) (Or.inl ⟨by rfl,?_⟩) ?_ ?_
              rotate_left
              · intro w'
                go_simp
                with_reducible rfl
              rotate_left
              · simp only [Act.put,List.setIfInBounds_toArray,List.set_cons_zero,List.set_cons_succ,i64_w,i32_w]
                rfl
              refine pure_ (i:=12) (N:=some 185) (v:=?_) (a':=?_) #[true,true,true,true,true,true,true,true,true,false,true,true,true,false,false,false,false] rfl rfl (by kernel_rfl) (fun _ _ _ h => h) (Or.inl ⟨by rfl,?_⟩) ?_ ?_
              rotate_left
              · intro w'
                go_simp
                with_reducible rfl
              rotate_left
              · simp only [Act.put,List.setIfInBounds_toArray,List.set_cons_zero,List.set_cons_succ,i64_w,i32_w]
                rfl
              refine take_ (i:=9) (N:=some 182) (v:=?_) (a':=?_) #[true,true,true,true,true,true,true,true,true,true,true,true,true,false,false,false,false] rfl rfl (by kernel_rfl) (fun _ _ _ h => h) (Or.inl ⟨by rfl,?_⟩) hHeld ?_ ?_
              rotate_left
              · rintro w' ⟨s0,s1⟩
                go_simp
                with_reducible rfl
              rotate_left
              · simp only [Act.put,List.setIfInBounds_toArray,List.set_cons_zero,List.set_cons_succ,i64_w,i32_w]
                rfl
              refine take_ (i:=13) (N:=some 186) (v:=?_) (a':=?_) #[true,true,true,true,true,true,true,true,true,true,true,true,true,true,false,false,false] rfl rfl (by kernel_rfl) (fun _ _ _ h => h) (Or.inl ⟨by rfl,?_⟩) hHeld ?_ ?_
              rotate_left
              · rintro w' ⟨s0,s1⟩
                go_simp
                with_reducible rfl
              rotate_left
              · simp only [Act.put,List.setIfInBounds_toArray,List.set_cons_zero,List.set_cons_succ,i64_w,i32_w]
                rfl
              refine one_ (i:=14) (N:=some 187) #[true,true,true,true,true,true,true,true,true,true,true,true,true,true,true,false,false] rfl rfl (by kernel_rfl) (by decide) (fun K hK => ?_)
              refine goes_ Tryd.func16 (by kernel_rfl) rfl #[.pointer (some ⟨p.g,0,none⟩),.pointer (some ⟨p.h,0,none⟩)] (by rfl) rfl rfl (by simp only [List.map_toArray,List.map_cons,List.map_nil];try rfl) ?_
              with_reducible refine (HSa.out).mono ?_
              rintro e wj ⟨rfl,hg⟩
              refine ⟨_,rfl,?_⟩
              have HPj:=Aside0.mk (HPd.out.gb hg);clear hg HSa HPd
              refine hK.out _ _ ⟨HPj.out.cl_ kc p.g hgi,HPj.out.cr_ kc p.h hhi⟩ (fun hHeld => ?_)
              clear hK K
              refine norm_ (a':=?_) ?_ ?_
              rotate_left
              · show Act.put _ (some 187) _ = _
                simp only [Act.put,List.setIfInBounds_toArray,List.set_cons_zero,List.set_cons_succ,i64_w,i32_w]
                rfl
              refine pure_ (i:=15) (N:=some 188) (v:=?_) (a':=?_) #[true,true,true,true,true,true,true,true,true,true,true,true,true,true,true,true,false] rfl rfl (by kernel_rfl) (fun _ _ _ h => h) (Or.inl ⟨by rfl,?_⟩) ?_ ?_
              rotate_left
              · intro w'
                go_simp
                with_reducible rfl
              rotate_left
              · simp only [Act.put,List.setIfInBounds_toArray,List.set_cons_zero,List.set_cons_succ,i64_w,i32_w]
                rfl
              refine pure_ (i:=16) (N:=some 189) (v:=?_) (a':=?_) #[true,true,true,true,true,true,true,true,true,true,true,true,true,true,true,true,true] rfl rfl (by kernel_rfl) (fun _ _ _ h => h) (Or.inl ⟨by rfl,?_⟩) ?_ ?_
              rotate_left
              · intro w'
                go_simp
                with_reducible rfl
              rotate_left
              · simp only [Act.put,List.setIfInBounds_toArray,List.set_cons_zero,List.set_cons_succ,i64_w,i32_w]
                rfl
              refine done_ (by kernel_rfl) ?_
              go_wp2_with fail
              go_roundg d
              case measure => omega
              case rel => exact ⟨kc + 1,by go_num,⟨by have:=HDi.out;omega⟩,by omega,HPj⟩
        | succ d =>
          have hlt : j < na:=by have:=HD.out;omega
          have hb3 : decide (j < na) = true:=decide_eq_true hlt
          obtain ⟨wo,rfl⟩ : ∃ wo,wo = wr:=⟨wr,rfl⟩
          have HRw:=Aside0.mk (HAc.out.1.below HPw.out.bel)
          obtain ⟨ad,x,rfl,hx,e1,e2,e3,e4⟩:=act_at HRw.out j hlt
          have hxb:=HAc.out.2 x (List.mem_of_getElem? hx)
          obtain ⟨x1,x2,x3,x4⟩:=x
          have hx4 : x4 ≤ 9223372036854775807:=hxb
          clear hx HRw hxb
          have HP0:=Aside0.mk (HPw.out.gb (World.grownBy_alloc wo (.cells #[.int .i64 x1,.int .i64 x2,.int .i64 x3,.int .i64 x4] 40) none))
          have HX0:=Aside0.mk (heap_alloc_new wo (.cells #[.int .i64 x1,.int .i64 x2,.int .i64 x3,.int .i64 x4] 40))
          have hma:=among_bd x2 (m : Int) (by omega)
          obtain ⟨kc,hkc,hkl⟩ : ∃ kc : Nat,amongV x2 (m : Int) = (kc : Int) ∧ kc < m:=⟨(amongV x2 (m : Int)).toNat,by omega,by omega⟩
          have HKc:=Aside0.mk hkc
          obtain ⟨q,hqe⟩ : ∃ q,amongV x1 4 = q:=⟨_,rfl⟩
          have HQe:=Aside0.mk hqe
          obtain ⟨p,hkp⟩ : ∃ p,ps[kc]? = some p:=⟨ps[kc]'(by rw [HM.out];exact hkl),List.getElem?_eq_getElem _⟩
          have hgi : (ps.map Pr.g)[kc]? = some p.g:=by rw [List.getElem?_map,hkp];rfl
          have hhi : (ps.map Pr.h)[kc]? = some p.h:=by rw [List.getElem?_map,hkp];rfl
          have hxn : ¬ PF p wo.heap.size:=fun hf => by have:=((HPw.out.ok kc p hkp).foot _ hf).2;omega
          have hk1 : (kc : Int) < (m : Int):=by omega
          have hk0 : (0 : Int) ≤ (kc : Int):=by omega
          clear hma hkc hqe
          go_wp2_with fail
          refine (among_calls _ x2 (m : Int) (by omega)).mono ?_
          rintro e w5 ⟨rfl,rfl⟩
          rw [HKc.out]
          go_wp2_with fail
          refine (among_calls _ x1 4 (by omega)).mono ?_
          rintro e w5 ⟨rfl,rfl⟩
          rw [HQe.out]
          clear e1 e2 e3 e4
          by_cases hcl : q = 3 ∧ m < 5
          · obtain ⟨h3,h5⟩:=hcl
            have hq3 : (q == 3) = true:=by simp [h3]
            have hm3 : decide ((m : Int) < 5) = true:=decide_eq_true (by omega)
            have hm4 : decide (m < 5) = true:=decide_eq_true h5
            have hcl1:=HP0.out.cl_ kc p.g hgi
            have hok0:=Aside0.mk (HP0.out.ok kc p hkp)
            have hgl:=HPw.out.gl_lt
            have hgr:=HPw.out.gr_lt
            have HLm:=Aside0.mk (show (ps.map Pr.g).length = m ∧ (ps.map Pr.h).length = m from ⟨by rw [List.length_map];exact HM.out,by rw [List.length_map];exact HM.out⟩)
            have hs0 : (wo.alloc (.cells #[.int .i64 x1,.int .i64 x2,.int .i64 x3,.int .i64 x4] 40)).heap.size = wo.heap.size + 1:=by simp
            clear h3
            go_wp2_with fail
            refine (Clone_calls _ w.heap.size p.g p.A p.xs.length p.c cf.a0 F p.xs hok0.out.a (by have:=hok0.out.le;omega)).mono ?_
            rintro e wa ⟨g2,A2,c2,rfl,hl,hg⟩
            have hsa:=hg.size
            have HPa:=Aside0.mk ((HP0.out.gb hg).gb (World.grownBy_alloc wa (.cells #[.pointer (some ⟨g2,0,none⟩)] 29) none))
            have HXa:=Aside0.mk (blk_kept (blk_kept HX0.out hg (by simp)) (World.grownBy_alloc wa (.cells #[.pointer (some ⟨g2,0,none⟩)] 29) none) (by simp))
            have HFa:=Aside0.mk hl.foot
            have HLa:=Aside0.mk (hl.gb (World.grownBy_alloc wa (.cells #[.pointer (some ⟨g2,0,none⟩)] 29) none))
            have hs1 : (wa.alloc (.cells #[.pointer (some ⟨g2,0,none⟩)] 29)).heap.size = wa.heap.size + 1:=by simp
            have HO1 : Aside0 ((wa.alloc (.cells #[.pointer (some ⟨g2,0,none⟩)] 29)).ownsRow w.heap.size 29 Ep.sz (.slice (some ⟨gl,0,none⟩) m cl) m (flat Ep (ps.map Pr.g))):=⟨by have h:=HPa.out.rl;rw [HLm.out.1] at h;exact h⟩
            have HR1:=Aside0.mk (own_rd (E:=Ep) rfl (own_ptr wa wa.heap.size g2 29 (Nat.le_refl _)))
            have HS1:=Aside0.mk HPa.out.bel.size
            clear hl hg hcl1
            go_wp2_with (at_builtin;refine app_at Ep w.heap.size rfl (.tmp 104) (.tmp 110) 37 29 (.pointer none) 8 rfl Tryd.underlying37 (by kernel_rfl) rfl (by decide) (.slice (some ⟨gl,0,none⟩) m cl) m (ps.map Pr.g) [g2] ⟨wa.heap.size,0,none⟩ 1 1 rfl rfl HO1.out HR1.out HS1.out (by omega) ?_;intro v1 wb ho hg hat;obtain ⟨gl2,cl2,rfl,-,hlb⟩:=ho.form (by omega);have hat2 : gl2 = gl ∨ gl2 = (wa.alloc (.cells #[.pointer (some ⟨g2,0,none⟩)] 29)).heap.size:=(by simpa [Value.ownBlock] using hat);have hln : (ps.map Pr.g ++ [g2]).length = m + 1:=(by rw [List.length_append,HLm.out.1];rfl);rw [← hln] at ho;have HPb:=Aside0.mk (HPa.out.left hg ho hat2);have HLb:=Aside0.mk (HLa.out.tn (Tn.of_gb hg (F:=fun k => k = gl) (fun k hk => (by simp [Value.ownBlock] at hk;exact hk.symm))) (fun k hk he => (by have:=(HFa.out k hk).1;omega)));have HXb:=Aside0.mk (blk_kept HXa.out hg (by simp [Value.ownBlock];omega));have hsb:=hg.size;have hcr1:=HPb.out.cr_ kc p.h hhi;clear ho hg hat hln HPa HLa HXa HO1 HR1 HS1)
            refine (rClone_calls _ w.heap.size p.h p.D p.xs.length p.d cf F p.xs (HPb.out.ok kc p hkp).b (by have:=hok0.out.le;omega)).mono ?_
            rintro e wc ⟨h2,D2,d2,rfl,hl,hg⟩
            have hsc:=hg.size
            have HPc:=Aside0.mk ((HPb.out.gb hg).gb (World.grownBy_alloc wc (.cells #[.pointer (some ⟨h2,0,none⟩)] 33) none))
            have HXc:=Aside0.mk (blk_kept (blk_kept HXb.out hg (by simp)) (World.grownBy_alloc wc (.cells #[.pointer (some ⟨h2,0,none⟩)] 33) none) (by simp))
            have HLc:=Aside0.mk ((HLb.out.gb hg).gb (World.grownBy_alloc wc (.cells #[.pointer (some ⟨h2,0,none⟩)] 33) none))
            have HFb:=Aside0.mk hl.foot
            have HRc:=Aside0.mk (hl.gb (World.grownBy_alloc wc (.cells #[.pointer (some ⟨h2,0,none⟩)] 33) none))
            have hs2 : (wc.alloc (.cells #[.pointer (some ⟨h2,0,none⟩)] 33)).heap.size = wc.heap.size + 1:=by simp
            have HO1 : Aside0 ((wc.alloc (.cells #[.pointer (some ⟨h2,0,none⟩)] 33)).ownsRow w.heap.size 33 Ep.sz (.slice (some ⟨gr,0,none⟩) m cr) m (flat Ep (ps.map Pr.h))):=⟨by have h:=HPc.out.rr;rw [HLm.out.2] at h;exact h⟩
            have HR1:=Aside0.mk (own_rd (E:=Ep) rfl (own_ptr wc wc.heap.size h2 33 (Nat.le_refl _)))
            have HS1:=Aside0.mk HPc.out.bel.size
            clear hl hg hcr1 HPb HLb HXb
            go_wp2_with (at_builtin;refine app_at Ep w.heap.size rfl (.tmp 112) (.tmp 118) 38 33 (.pointer none) 8 rfl Tryd.underlying38 (by kernel_rfl) rfl (by decide) (.slice (some ⟨gr,0,none⟩) m cr) m (ps.map Pr.h) [h2] ⟨wc.heap.size,0,none⟩ 1 1 rfl rfl HO1.out HR1.out HS1.out (by omega) ?_;intro v1 wd ho hg hat;obtain ⟨gr2,cr2,rfl,-,hld⟩:=ho.form (by omega);have hat3 : gr2 = gr ∨ gr2 = (wc.alloc (.cells #[.pointer (some ⟨h2,0,none⟩)] 33)).heap.size:=(by simpa [Value.ownBlock] using hat);have hln : (ps.map Pr.h ++ [h2]).length = m + 1:=(by rw [List.length_append,HLm.out.2];rfl);rw [← hln] at ho;have HPd0:=Aside0.mk (HPc.out.right hg ho hat3);have HLd:=Aside0.mk (HLc.out.tn (Tn.of_gb hg (F:=fun k => k = gr) (fun k hk => (by simp [Value.ownBlock] at hk;exact hk.symm))) (fun k hk he => (by have:=(HFa.out k hk).1;omega)));have HRd:=Aside0.mk (HRc.out.tn (Tn.of_gb hg (F:=fun k => k = gr) (fun k hk => (by simp [Value.ownBlock] at hk;exact hk.symm))) (fun k hk he => (by have:=(HFb.out k hk).1;omega)));have HX1:=Aside0.mk (blk_kept HXc.out hg (by simp [Value.ownBlock];omega));clear ho hg hat hln HPc HLc HXc HRc HO1 HR1 HS1)
            have HQ9 : Aside0 (PrOk wd w.heap.size cf F ⟨g2,A2,c2,h2,D2,d2,p.xs⟩):=⟨⟨HLd.out.mono (by omega),HRd.out.mono (by omega),fun k hk hf => by have:=(HFa.out k hk).2;have:=(HFb.out k hf).1;omega,hok0.out.le⟩⟩
            have HPe0:=Aside0.mk (HPd0.out.add HQ9.out (fun i r hr k hk hf => by
              have h1:=((HPw.out.ok i r hr).foot k hk).2
              rcases hf with h2 | h2
              · have:=(HFa.out k h2).1;omega
              · have:=(HFb.out k h2).1;omega) (fun k hf => by
              rcases hf with h2 | h2
              · have:=HFa.out k h2;omega
              · have:=HFb.out k h2;omega))
            have hkp0:=hkp
            have hxm:=hxn
            have hkp : (ps ++ [(⟨g2,A2,c2,h2,D2,d2,p.xs⟩ : Pr)])[kc]? = some p:=by rw [List.getElem?_append_left (by rw [HM.out];exact hkl)];exact hkp0
            have hgi0:=hgi
            have hgi : (ps.map Pr.g ++ [g2])[kc]? = some p.g:=by rw [List.getElem?_append_left (by rw [HLm.out.1];exact hkl)];exact hgi0
            have hhi0:=hhi
            have hhi : (ps.map Pr.h ++ [h2])[kc]? = some p.h:=by rw [List.getElem?_append_left (by rw [HLm.out.2];exact hkl)];exact hhi0
            have HPd:=Aside0.mk (HPe0.out.gb (gb_drew _ none))
            have HXd:=Aside0.mk (show wd.drew.heap[wo.heap.size]? = some (.cells #[.int .i64 x1,.int .i64 x2,.int .i64 x3,.int .i64 x4] 40) from HX1.out)
            have HAct:=Aside0.mk (act_calls _ w.heap.size cf F p x1 x2 x3 x4 (HPd.out.ok kc p hkp) hx4)
            have hk1' : (kc : Int) < (m : Int) + 1:=by omega
            have HMl:=Aside0.mk (show (ps ++ [(⟨g2,A2,c2,h2,D2,d2,p.xs⟩ : Pr)]).length = m + 1 by rw [List.length_append,HM.out];rfl)
            clear hkp0 hgi0 hhi0 HPe0 HX1 HQ9 HRd HLd HPd0 HFa HFb HP0 HX0 hok0 hm3 hm4 hs0 hs1 hs2 hsa hsb hsc hat2 hat3 hlb hld
            refine start_ (n:=47) (S:=fun w' => w'.cell? ⟨gl2,kc,none⟩ = some (.pointer (some ⟨p.g,0,none⟩)) ∧ w'.cell? ⟨gr2,kc,none⟩ = some (.pointer (some ⟨p.h,0,none⟩)) ∧ w'.cell? ⟨wo.heap.size,0,none⟩ = some (.int .i64 x1) ∧ w'.cell? ⟨wo.heap.size,1,none⟩ = some (.int .i64 x2) ∧ w'.cell? ⟨wo.heap.size,2,none⟩ = some (.int .i64 x3) ∧ w'.cell? ⟨wo.heap.size,3,none⟩ = some (.int .i64 x4)) (ds:=[]) #[false,false,false,false,false,false,false,false,false,false,false,false,false,false,false,false,false,false,false,false,false,false,false,false,false,false,false,false,false,false,false,false,false,false,false,false,false,false,false,false,false,false,false,false,false,false,false] (by kernel_rfl) rfl rfl ⟨HPd.out.cl_ kc p.g hgi,HPd.out.cr_ kc p.h hhi,cell_of HXd.out rfl,cell_of HXd.out rfl,cell_of HXd.out rfl,cell_of HXd.out rfl⟩ (fun hHeld => ?_)
            refine pure_ (i:=0) (N:=some 120) (v:=?_) (a':=?_) #[true,false,false,false,false,false,false,false,false,false,false,false,false,false,false,false,false,false,false,false,false,false,false,false,false,false,false,false,false,false,false,false,false,false,false,false,false,false,false,false,false,false,false,false,false,false,false] rfl rfl (by kernel_rfl) (fun _ _ _ h => h) (Or.inl ⟨by rfl,?_⟩) ?_ ?_
            rotate_left
            · intro w'
              go_simp
              with_reducible rfl
            rotate_left
            · simp only [Act.put,List.setIfInBounds_toArray,List.set_cons_zero,List.set_cons_succ,i64_w,i32_w,bne_self_eq_false]
              rfl
            refine pure_ (i:=1) (N:=some 121) (v:=?_) (a':=?_) #[true,true,false,false,false,false,false,false,false,false,false,false,false,false,false,false,false,false,false,false,false,false,false,false,false,false,false,false,false,false,false,false,false,false,false,false,false,false,false,false,false,false,false,false,false,false,false] rfl rfl (by kernel_rfl) (fun _ _ _ h => h) (Or.inl ⟨by rfl,?_⟩) ?_ ?_
            rotate_left
            · intro w'
              go_simp
              with_reducible rfl
            rotate_left
            · simp only [Act.put,List.setIfInBounds_toArray,List.set_cons_zero,List.set_cons_succ,i64_w,i32_w,bne_self_eq_false]
              rfl
            refine pure_ (i:=2) (N:=some 122) (v:=?_) (a':=?_) #[true,true,true,false,false,false,false,false,false,false,false,false,false,false,false,false,false,false,false,false,false,false,false,false,false,false,false,false,false,false,false,false,false,false,false,false,false,false,false,false,false,false,false,false,false,false,false] rfl rfl (by kernel_rfl) (fun _ _ _ h => h) (Or.inl ⟨by rfl,?_⟩) ?_ ?_
            rotate_left
            · intro w'
              go_simp
              with_reducible rfl
            rotate_left
            · simp only [Act.put,List.setIfInBounds_toArray,List.set_cons_zero,List.set_cons_succ,i64_w,i32_w,bne_self_eq_false]
              rfl
            refine take_ (i:=3) (N:=some 123) (v:=?_) (a':=?_) #[true,true,true,true,false,false,false,false,false,false,false,false,false,false,false,false,false,false,false,false,false,false,false,false,false,false,false,false,false,false,false,false,false,false,false,false,false,false,false,false,false,false,false,false,false,false,false] rfl rfl (by kernel_rfl) (fun _ _ _ h => h) (Or.inl ⟨by rfl,?_⟩) hHeld ?_ ?_
            rotate_left
            · rintro w' ⟨s0,s1,s2,s3,s4,s5⟩
              go_simp
              with_reducible rfl
            rotate_left
            · simp only [Act.put,List.setIfInBounds_toArray,List.set_cons_zero,List.set_cons_succ,i64_w,i32_w,bne_self_eq_false]
              rfl
            refine pure_ (i:=4) (N:=some 124) (v:=?_) (a':=?_) #[true,true,true,true,true,false,false,false,false,false,false,false,false,false,false,false,false,false,false,false,false,false,false,false,false,false,false,false,false,false,false,false,false,false,false,false,false,false,false,false,false,false,false,false,false,false,false] rfl rfl (by kernel_rfl) (fun _ _ _ h => h) (Or.inl ⟨by rfl,?_⟩) ?_ ?_
            rotate_left
            · intro w'
              go_simp
              with_reducible rfl
            rotate_left
            · simp only [Act.put,List.setIfInBounds_toArray,List.set_cons_zero,List.set_cons_succ,i64_w,i32_w,bne_self_eq_false]
              rfl
            refine pure_ (i:=5) (N:=some 125) (v:=?_) (a':=?_) #[true,true,true,true,true,true,false,false,false,false,false,false,false,false,false,false,false,false,false,false,false,false,false,false,false,false,false,false,false,false,false,false,false,false,false,false,false,false,false,false,false,false,false,false,false,false,false] rfl rfl (by kernel_rfl) (fun _ _ _ h => h) (Or.inl ⟨by rfl,?_⟩) ?_ ?_
            rotate_left
            · intro w'
              go_simp
              with_reducible rfl
            rotate_left
            · simp only [Act.put,List.setIfInBounds_toArray,List.set_cons_zero,List.set_cons_succ,i64_w,i32_w,bne_self_eq_false]
              rfl
            refine pure_ (i:=7) (N:=some 127) (v:=?_) (a':=?_) #[true,true,true,true,true,true,false,true,false,false,false,false,false,false,false,false,false,false,false,false,false,false,false,false,false,false,false,false,false,false,false,false,false,false,false,false,false,false,false,false,false,false,false,false,false,false,false] rfl rfl (by kernel_rfl) (fun _ _ _ h => h) (Or.inl ⟨by rfl,?_⟩) ?_ ?_
            rotate_left
            · intro w'
              go_simp
              with_reducible rfl
            rotate_left
            · simp only [Act.put,List.setIfInBounds_toArray,List.set_cons_zero,List.set_cons_succ,i64_w,i32_w,bne_self_eq_false]
              rfl
            refine pure_ (i:=8) (N:=some 128) (v:=?_) (a':=?_) #[true,true,true,true,true,true,false,true,true,false,false,false,false,false,false,false,false,false,false,false,false,false,false,false,false,false,false,false,false,false,false,false,false,false,false,false,false,false,false,false,false,false,false,false,false,false,false] rfl rfl (by kernel_rfl) (fun _ _ _ h => h) (Or.inl ⟨by rfl,?_⟩) ?_ ?_
            rotate_left
            · intro w'
              go_simp
              with_reducible rfl
            rotate_left
            · simp only [Act.put,List.setIfInBounds_toArray,List.set_cons_zero,List.set_cons_succ,i64_w,i32_w,bne_self_eq_false]
              rfl
            refine pure_ (i:=9) (N:=some 129) (v:=?_) (a':=?_) #[true,true,true,true,true,true,false,true,true,true,false,false,false,false,false,false,false,false,false,false,false,false,false,false,false,false,false,false,false,false,false,false,false,false,false,false,false,false,false,false,false,false,false,false,false,false,false] rfl rfl (by kernel_rfl) (fun _ _ _ h => h) (Or.inl ⟨by rfl,?_⟩) ?_ ?_
            rotate_left
            · intro w'
              go_simp
              with_reducible rfl
            rotate_left
            · simp only [Act.put,List.setIfInBounds_toArray,List.set_cons_zero,List.set_cons_succ,i64_w,i32_w,bne_self_eq_false]
              rfl
            refine pure_ (i:=11) (N:=some 131) (v:=?_) (a':=?_) #[true,true,true,true,true,true,false,true,true,true,false,true,false,false,false,false,false,false,false,false,false,false,false,false,false,false,false,false,false,false,false,false,false,false,false,false,false,false,false,false,false,false,false,false,false,false,false] rfl rfl (by kernel_rfl) (fun _ _ _ h => h) (Or.inl ⟨by rfl,?_⟩) ?_ ?_
            rotate_left
            · intro w'
              go_simp
              with_reducible rfl
            rotate_left
            · simp only [Act.put,List.setIfInBounds_toArray,List.set_cons_zero,List.set_cons_succ,i64_w,i32_w,bne_self_eq_false]
              rfl
            refine pure_ (i:=12) (N:=some 132) (v:=?_) (a':=?_) #[true,true,true,true,true,true,false,true,true,true,false,true,true,false,false,false,false,false,false,false,false,false,false,false,false,false,false,false,false,false,false,false,false,false,false,false,false,false,false,false,false,false,false,false,false,false,false] rfl rfl (by kernel_rfl) (fun _ _ _ h => h) (Or.inl ⟨by rfl,?_⟩) ?_ ?_
            rotate_left
            · intro w'
              go_simp
              with_reducible rfl
            rotate_left
            · simp only [Act.put,List.setIfInBounds_toArray,List.set_cons_zero,List.set_cons_succ,i64_w,i32_w,bne_self_eq_false]
              rfl
            refine pure_ (i:=13) (N:=some 133) (v:=?_) (a':=?_) #[true,true,true,true,true,true,false,true,true,true,false,true,true,true,false,false,false,false,false,false,false,false,false,false,false,false,false,false,false,false,false,false,false,false,false,false,false,false,false,false,false,false,false,false,false,false,false] rfl rfl (by kernel_rfl) (fun _ _ _ h => h) (Or.inl ⟨by rfl,?_⟩) ?_ ?_
            rotate_left
            · intro w'
              go_simp
              with_reducible rfl
            rotate_left
            · simp only [Act.put,List.setIfInBounds_toArray,List.set_cons_zero,List.set_cons_succ,i64_w,i32_w,bne_self_eq_false]
              rfl
            refine take_ (i:=6) (N:=some 126) (v:=?_) (a':=?_) #[true,true,true,true,true,true,true,true,true,true,false,true,true,true,false,false,false,false,false,false,false,false,false,false,false,false,false,false,false,false,false,false,false,false,false,false,false,false,false,false,false,false,false,false,false,false,false] rfl rfl (by kernel_rfl) (fun _ _ _ h => h) (Or.inl ⟨by rfl,?_⟩) hHeld ?_ ?_
            rotate_left
            · rintro w' ⟨s0,s1,s2,s3,s4,s5⟩
              go_simp
              with_reducible rfl
            rotate_left
            · simp only [Act.put,List.setIfInBounds_toArray,List.set_cons_zero,List.set_cons_succ,i64_w,i32_w,bne_self_eq_false]
              rfl
            refine take_ (i:=10) (N:=some 130) (v:=?_) (a':=?_) #[true,true,true,true,true,true,true,true,true,true,true,true,true,true,false,false,false,false,false,false,false,false,false,false,false,false,false,false,false,false,false,false,false,false,false,false,false,false,false,false,false,false,false,false,false,false,false] rfl rfl (by kernel_rfl) (fun _ _ _ h => h) (Or.inl ⟨by rfl,?_⟩) hHeld ?_ ?_
            rotate_left
            · rintro w' ⟨s0,s1,s2,s3,s4,s5⟩
              go_simp
              with_reducible rfl
            rotate_left
            · simp only [Act.put,List.setIfInBounds_toArray,List.set_cons_zero,List.set_cons_succ,i64_w,i32_w,bne_self_eq_false]
              rfl
            refine take_ (i:=14) (N:=some 134) (v:=?_) (a':=?_) #[true,true,true,true,true,true,true,true,true,true,true,true,true,true,true,false,false,false,false,false,false,false,false,false,false,false,false,false,false,false,false,false,false,false,false,false,false,false,false,false,false,false,false,false,false,false,false] rfl rfl (by kernel_rfl) (fun _ _ _ h => h) (Or.inl ⟨by rfl,?_⟩) hHeld ?_ ?_
            rotate_left
            · rintro w' ⟨s0,s1,s2,s3,s4,s5⟩
              go_simp
              with_reducible rfl
            rotate_left
            · simp only [Act.put,List.setIfInBounds_toArray,List.set_cons_zero,List.set_cons_succ,i64_w,i32_w,bne_self_eq_false]
              rfl
            refine one_ (i:=15) (N:=some 135) #[true,true,true,true,true,true,true,true,true,true,true,true,true,true,true,true,false,false,false,false,false,false,false,false,false,false,false,false,false,false,false,false,false,false,false,false,false,false,false,false,false,false,false,false,false,false,false] rfl rfl (by kernel_rfl) (by decide) (fun K hK => ?_)
            refine goes_ Tryd.func15 (by kernel_rfl) rfl #[.agg #[.int .i64 x1,.int .i64 x2,.int .i64 x3,.int .i64 x4],.pointer (some ⟨p.g,0,none⟩),.pointer (some ⟨p.h,0,none⟩)] (by rfl) rfl rfl (by simp only [List.map_toArray,List.map_cons,List.map_nil];try rfl) ?_
            with_reducible refine (HAct.out).mono ?_
            rintro e wa ⟨rfl,hac⟩
            refine ⟨_,rfl,?_⟩
            have HXa:=Aside0.mk (acted_keeps hac HXd.out hxn);obtain ⟨p2,hg2,hh2,hpl⟩:=HPd.out.act hkp hac;have HPa:=Aside0.mk hpl;have HQ2:=Aside0.mk (And.intro hg2 hh2);have HSa:=Aside0.mk (pool_same hpl hkp hg2 hh2);clear hac hpl hg2 hh2 HAct HPd HXd
            refine hK.out _ _ ⟨HPa.out.cl_ kc p.g hgi,HPa.out.cr_ kc p.h hhi,cell_of HXa.out rfl,cell_of HXa.out rfl,cell_of HXa.out rfl,cell_of HXa.out rfl⟩ (fun hHeld => ?_)
            clear hK K
            refine norm_ (a':=?_) ?_ ?_
            rotate_left
            · show Act.put _ (some 135) _ = _
              simp only [Act.put,List.setIfInBounds_toArray,List.set_cons_zero,List.set_cons_succ,i64_w,i32_w,bne_self_eq_false]
              rfl
            refine pure_ (i:=16) (N:=some 136) (v:=?_) (a':=?_) #[true,true,true,true,true,true,true,true,true,true,true,true,true,true,true,true,true,false,false,false,false,false,false,false,false,false,false,false,false,false,false,false,false,false,false,false,false,false,false,false,false,false,false,false,false,false,false] rfl rfl (by kernel_rfl) (fun _ _ _ h => h) (Or.inl ⟨by rfl,?_⟩) ?_ ?_
            rotate_left
            · intro w'
              go_simp
              with_reducible rfl
            rotate_left
            · simp only [Act.put,List.setIfInBounds_toArray,List.set_cons_zero,List.set_cons_succ,i64_w,i32_w,bne_self_eq_false]
              rfl
            refine pure_ (i:=17) (N:=some 137) (v:=?_) (a':=?_) #[true,true,true,true,true,true,true,true,true,true,true,true,true,true,true,true,true,true,false,false,false,false,false,false,false,false,false,false,false,false,false,false,false,false,false,false,false,false,false,false,false,false,false,false,false,false,false] rfl rfl (by kernel_rfl) (fun _ _ _ h => h) (Or.inl ⟨by rfl,?_⟩) ?_ ?_
            rotate_left
            · intro w'
              go_simp
              with_reducible rfl
            rotate_left
            · simp only [Act.put,List.setIfInBounds_toArray,List.set_cons_zero,List.set_cons_succ,i64_w,i32_w,bne_self_eq_false]
              rfl
            refine pure_ (i:=18) (N:=some 138) (v:=?_) (a':=?_) #[true,true,true,true,true,true,true,true,true,true,true,true,true,true,true,true,true,true,true,false,false,false,false,false,false,false,false,false,false,false,false,false,false,false,false,false,false,false,false,false,false,false,false,false,false,false,false] rfl rfl (by kernel_rfl) (fun _ _ _ h => h) (Or.inl ⟨by rfl,?_⟩) ?_ ?_
            rotate_left
            · intro w'
              go_simp
              with_reducible rfl
            rotate_left
            · simp only [Act.put,List.setIfInBounds_toArray,List.set_cons_zero,List.set_cons_succ,i64_w,i32_w,bne_self_eq_false]
              rfl
            refine pure_ (i:=19) (N:=some 139) (v:=?_) (a':=?_) #[true,true,true,true,true,true,true,true,true,true,true,true,true,true,true,true,true,true,true,true,false,false,false,false,false,false,false,false,false,false,false,false,false,false,false,false,false,false,false,false,false,false,false,false,false,false,false] rfl rfl (by kernel_rfl) (fun _ _ _ h => h) (Or.inl ⟨by rfl,?_⟩) ?_ ?_
            rotate_left
            · intro w'
              go_simp
              with_reducible rfl
            rotate_left
            · simp only [Act.put,List.setIfInBounds_toArray,List.set_cons_zero,List.set_cons_succ,i64_w,i32_w,bne_self_eq_false]
              rfl
            refine pure_ (i:=20) (N:=some 140) (v:=?_) (a':=?_) #[true,true,true,true,true,true,true,true,true,true,true,true,true,true,true,true,true,true,true,true,true,false,false,false,false,false,false,false,false,false,false,false,false,false,false,false,false,false,false,false,false,false,false,false,false,false,false] rfl rfl (by kernel_rfl) (fun _ _ _ h => h) (Or.inl ⟨by rfl,?_⟩) ?_ ?_
            rotate_left
            · intro w'
              go_simp
              with_reducible rfl
            rotate_left
            · simp only [Act.put,List.setIfInBounds_toArray,List.set_cons_zero,List.set_cons_succ,i64_w,i32_w,bne_self_eq_false]
              rfl
            refine pure_ (i:=21) (N:=some 141) (v:=?_) (a':=?_) #[true,true,true,true,true,true,true,true,true,true,true,true,true,true,true,true,true,true,true,true,true,true,false,false,false,false,false,false,false,false,false,false,false,false,false,false,false,false,false,false,false,false,false,false,false,false,false] rfl rfl (by kernel_rfl) (fun _ _ _ h => h) (Or.inl ⟨by rfl,?_⟩) ?_ ?_
            rotate_left
            · intro w'
              go_simp
              with_reducible rfl
            rotate_left
            · simp only [Act.put,List.setIfInBounds_toArray,List.set_cons_zero,List.set_cons_succ,i64_w,i32_w,bne_self_eq_false]
              rfl
            refine pure_ (i:=23) (N:=some 143) (v:=?_) (a':=?_) #[true,true,true,true,true,true,true,true,true,true,true,true,true,true,true,true,true,true,true,true,true,true,false,true,false,false,false,false,false,false,false,false,false,false,false,false,false,false,false,false,false,false,false,false,false,false,false] rfl rfl (by kernel_rfl) (fun _ _ _ h => h) (Or.inl ⟨by rfl,?_⟩) ?_ ?_
            rotate_left
            · intro w'
              go_simp
              with_reducible rfl
            rotate_left
            · simp only [Act.put,List.setIfInBounds_toArray,List.set_cons_zero,List.set_cons_succ,i64_w,i32_w,bne_self_eq_false]
              rfl
            refine pure_ (i:=24) (N:=some 144) (v:=?_) (a':=?_) #[true,true,true,true,true,true,true,true,true,true,true,true,true,true,true,true,true,true,true,true,true,true,false,true,true,false,false,false,false,false,false,false,false,false,false,false,false,false,false,false,false,false,false,false,false,false,false] rfl rfl (by kernel_rfl) (fun _ _ _ h => h) (Or.inl ⟨by rfl,?_⟩) ?_ ?_
            rotate_left
            · intro w'
              go_simp
              with_reducible rfl
            rotate_left
            · simp only [Act.put,List.setIfInBounds_toArray,List.set_cons_zero,List.set_cons_succ,i64_w,i32_w,bne_self_eq_false]
              rfl
            refine pure_ (i:=25) (N:=some 145) (v:=?_) (a':=?_) #[true,true,true,true,true,true,true,true,true,true,true,true,true,true,true,true,true,true,true,true,true,true,false,true,true,true,false,false,false,false,false,false,false,false,false,false,false,false,false,false,false,false,false,false,false,false,false] rfl rfl (by kernel_rfl) (fun _ _ _ h => h) (Or.inl ⟨by rfl,?_⟩) ?_ ?_
            rotate_left
            · intro w'
              go_simp
              with_reducible rfl
            rotate_left
            · simp only [Act.put,List.setIfInBounds_toArray,List.set_cons_zero,List.set_cons_succ,i64_w,i32_w,bne_self_eq_false]
              rfl
            refine take_ (i:=22) (N:=some 142) (v:=?_) (a':=?_) #[true,true,true,true,true,true,true,true,true,true,true,true,true,true,true,true,true,true,true,true,true,true,true,true,true,true,false,false,false,false,false,false,false,false,false,false,false,false,false,false,false,false,false,false,false,false,false] rfl rfl (by kernel_rfl) (fun _ _ _ h => h) (Or.inl ⟨by rfl,?_⟩) hHeld ?_ ?_
            rotate_left
            · rintro w' ⟨s0,s1,s2,s3,s4,s5⟩
              go_simp
              with_reducible rfl
            rotate_left
            · simp only [Act.put,List.setIfInBounds_toArray,List.set_cons_zero,List.set_cons_succ,i64_w,i32_w,bne_self_eq_false]
              rfl
            refine take_ (i:=26) (N:=some 146) (v:=?_) (a':=?_) #[true,true,true,true,true,true,true,true,true,true,true,true,true,true,true,true,true,true,true,true,true,true,true,true,true,true,true,false,false,false,false,false,false,false,false,false,false,false,false,false,false,false,false,false,false,false,false] rfl rfl (by kernel_rfl) (fun _ _ _ h => h) (Or.inl ⟨by rfl,?_⟩) hHeld ?_ ?_
            rotate_left
            · rintro w' ⟨s0,s1,s2,s3,s4,s5⟩
              go_simp
              with_reducible rfl
            rotate_left
            · simp only [Act.put,List.setIfInBounds_toArray,List.set_cons_zero,List.set_cons_succ,i64_w,i32_w,bne_self_eq_false]
              rfl
            refine one_ (i:=27) (N:=some 147) #[true,true,true,true,true,true,true,true,true,true,true,true,true,true,true,true,true,true,true,true,true,true,true,true,true,true,true,true,false,false,false,false,false,false,false,false,false,false,false,false,false,false,false,false,false,false,false] rfl rfl (by kernel_rfl) (by decide) (fun K hK => ?_)
            refine goes_ Tryd.func16 (by kernel_rfl) rfl #[.pointer (some ⟨p.g,0,none⟩),.pointer (some ⟨p.h,0,none⟩)] (by rfl) rfl rfl (by simp only [List.map_toArray,List.map_cons,List.map_nil];try rfl) ?_
            with_reducible refine (HSa.out).mono ?_
            rintro e wb ⟨rfl,hg⟩
            refine ⟨_,rfl,?_⟩
            have HPb:=Aside0.mk (HPa.out.gb hg);have HXb:=Aside0.mk (blk_kept HXa.out hg (by simp));have HSu:=Aside0.mk (pool_sum HPb.out hkp HQ2.out.1 (ce:=ce) (HSm.out.below HPb.out.bel));clear hg HSa HPa HXa
            refine hK.out _ _ ⟨HPb.out.cl_ kc p.g hgi,HPb.out.cr_ kc p.h hhi,cell_of HXb.out rfl,cell_of HXb.out rfl,cell_of HXb.out rfl,cell_of HXb.out rfl⟩ (fun hHeld => ?_)
            clear hK K
            refine norm_ (a':=?_) ?_ ?_
            rotate_left
            · show Act.put _ (some 147) _ = _
              simp only [Act.put,List.setIfInBounds_toArray,List.set_cons_zero,List.set_cons_succ,i64_w,i32_w,bne_self_eq_false]
              rfl
            refine pure_ (i:=28) (N:=some 148) (v:=?_) (a':=?_) #[true,true,true,true,true,true,true,true,true,true,true,true,true,true,true,true,true,true,true,true,true,true,true,true,true,true,true,true,true,false,false,false,false,false,false,false,false,false,false,false,false,false,false,false,false,false,false] rfl rfl (by kernel_rfl) (fun _ _ _ h => h) (Or.inl ⟨by rfl,?_⟩) ?_ ?_
            rotate_left
            · intro w'
              go_simp
              with_reducible rfl
            rotate_left
            · simp only [Act.put,List.setIfInBounds_toArray,List.set_cons_zero,List.set_cons_succ,i64_w,i32_w,bne_self_eq_false]
              rfl
            refine pure_ (i:=29) (N:=some 149) (v:=?_) (a':=?_) #[true,true,true,true,true,true,true,true,true,true,true,true,true,true,true,true,true,true,true,true,true,true,true,true,true,true,true,true,true,true,false,false,false,false,false,false,false,false,false,false,false,false,false,false,false,false,false] rfl rfl (by kernel_rfl) (fun _ _ _ h => h) (Or.inl ⟨by rfl,?_⟩) ?_ ?_
            rotate_left
            · intro w'
              go_simp
              with_reducible rfl
            rotate_left
            · simp only [Act.put,List.setIfInBounds_toArray,List.set_cons_zero,List.set_cons_succ,i64_w,i32_w,bne_self_eq_false]
              rfl
            refine pure_ (i:=30) (N:=some 150) (v:=?_) (a':=?_) #[true,true,true,true,true,true,true,true,true,true,true,true,true,true,true,true,true,true,true,true,true,true,true,true,true,true,true,true,true,true,true,false,false,false,false,false,false,false,false,false,false,false,false,false,false,false,false] rfl rfl (by kernel_rfl) (fun _ _ _ h => h) (Or.inl ⟨by rfl,?_⟩) ?_ ?_
            rotate_left
            · intro w'
              go_simp
              with_reducible rfl
            rotate_left
            · simp only [Act.put,List.setIfInBounds_toArray,List.set_cons_zero,List.set_cons_succ,i64_w,i32_w,bne_self_eq_false]
              rfl
            refine pure_ (i:=31) (N:=some 151) (v:=?_) (a':=?_) #[true,true,true,true,true,true,true,true,true,true,true,true,true,true,true,true,true,true,true,true,true,true,true,true,true,true,true,true,true,true,true,true,false,false,false,false,false,false,false,false,false,false,false,false,false,false,false] rfl rfl (by kernel_rfl) (fun _ _ _ h => h) (Or.inl ⟨by rfl,?_⟩) ?_ ?_
            rotate_left
            · intro w'
              go_simp
              with_reducible rfl
            rotate_left
            · simp only [Act.put,List.setIfInBounds_toArray,List.set_cons_zero,List.set_cons_succ,i64_w,i32_w,bne_self_eq_false]
              rfl
            refine pure_ (i:=32) (N:=some 152) (v:=?_) (a':=?_) #[true,true,true,true,true,true,true,true,true,true,true,true,true,true,true,true,true,true,true,true,true,true,true,true,true,true,true,true,true,true,true,true,true,false,false,false,false,false,false,false,false,false,false,false,false,false,false] rfl rfl (by kernel_rfl) (fun _ _ _ h => h) (Or.inl ⟨by rfl,?_⟩) ?_ ?_
            rotate_left
            · intro w'
              go_simp
              with_reducible rfl
            rotate_left
            · simp only [Act.put,List.setIfInBounds_toArray,List.set_cons_zero,List.set_cons_succ,i64_w,i32_w,bne_self_eq_false]
              rfl
            refine pure_ (i:=33) (N:=some 153) (v:=?_) (a':=?_) #[true,true,true,true,true,true,true,true,true,true,true,true,true,true,true,true,true,true,true,true,true,true,true,true,true,true,true,true,true,true,true,true,true,true,false,false,false,false,false,false,false,false,false,false,false,false,false] rfl rfl (by kernel_rfl) (fun _ _ _ h => h) (Or.inl ⟨by rfl,?_⟩) ?_ ?_
            rotate_left
            · intro w'
              go_simp
              with_reducible rfl
            rotate_left
            · simp only [Act.put,List.setIfInBounds_toArray,List.set_cons_zero,List.set_cons_succ,i64_w,i32_w,bne_self_eq_false]
              rfl
            refine pure_ (i:=37) (N:=some 157) (v:=?_) (a':=?_) #[true,true,true,true,true,true,true,true,true,true,true,true,true,true,true,true,true,true,true,true,true,true,true,true,true,true,true,true,true,true,true,true,true,true,false,false,false,true,false,false,false,false,false,false,false,false,false] rfl rfl (by kernel_rfl) (fun _ _ _ h => h) (Or.inl ⟨by rfl,?_⟩) ?_ ?_
            rotate_left
            · intro w'
              go_simp
              with_reducible rfl
            rotate_left
            · simp only [Act.put,List.setIfInBounds_toArray,List.set_cons_zero,List.set_cons_succ,i64_w,i32_w,bne_self_eq_false]
              rfl
            refine pure_ (i:=39) (N:=some 159) (v:=?_) (a':=?_) #[true,true,true,true,true,true,true,true,true,true,true,true,true,true,true,true,true,true,true,true,true,true,true,true,true,true,true,true,true,true,true,true,true,true,false,false,false,true,false,true,false,false,false,false,false,false,false] rfl rfl (by kernel_rfl) (fun _ _ _ h => h) (Or.inl ⟨by rfl,?_⟩) ?_ ?_
            rotate_left
            · intro w'
              go_simp
              with_reducible rfl
            rotate_left
            · simp only [Act.put,List.setIfInBounds_toArray,List.set_cons_zero,List.set_cons_succ,i64_w,i32_w,bne_self_eq_false]
              rfl
            refine pure_ (i:=40) (N:=some 160) (v:=?_) (a':=?_) #[true,true,true,true,true,true,true,true,true,true,true,true,true,true,true,true,true,true,true,true,true,true,true,true,true,true,true,true,true,true,true,true,true,true,false,false,false,true,false,true,true,false,false,false,false,false,false] rfl rfl (by kernel_rfl) (fun _ _ _ h => h) (Or.inl ⟨by rfl,?_⟩) ?_ ?_
            rotate_left
            · intro w'
              go_simp
              with_reducible rfl
            rotate_left
            · simp only [Act.put,List.setIfInBounds_toArray,List.set_cons_zero,List.set_cons_succ,i64_w,i32_w,bne_self_eq_false]
              rfl
            refine pure_ (i:=41) (N:=some 161) (v:=?_) (a':=?_) #[true,true,true,true,true,true,true,true,true,true,true,true,true,true,true,true,true,true,true,true,true,true,true,true,true,true,true,true,true,true,true,true,true,true,false,false,false,true,false,true,true,true,false,false,false,false,false] rfl rfl (by kernel_rfl) (fun _ _ _ h => h) (Or.inl ⟨by rfl,?_⟩) ?_ ?_
            rotate_left
            · intro w'
              go_simp
              with_reducible rfl
            rotate_left
            · simp only [Act.put,List.setIfInBounds_toArray,List.set_cons_zero,List.set_cons_succ,i64_w,i32_w,bne_self_eq_false]
              rfl
            refine pure_ (i:=43) (N:=some 163) (v:=?_) (a':=?_) #[true,true,true,true,true,true,true,true,true,true,true,true,true,true,true,true,true,true,true,true,true,true,true,true,true,true,true,true,true,true,true,true,true,true,false,false,false,true,false,true,true,true,false,true,false,false,false] rfl rfl (by kernel_rfl) (fun _ _ _ h => h) (Or.inl ⟨by rfl,?_⟩) ?_ ?_
            rotate_left
            · intro w'
              go_simp
              with_reducible rfl
            rotate_left
            · simp only [Act.put,List.setIfInBounds_toArray,List.set_cons_zero,List.set_cons_succ,i64_w,i32_w,bne_self_eq_false]
              rfl
            refine take_ (i:=34) (N:=some 154) (v:=?_) (a':=?_) #[true,true,true,true,true,true,true,true,true,true,true,true,true,true,true,true,true,true,true,true,true,true,true,true,true,true,true,true,true,true,true,true,true,true,true,false,false,true,false,true,true,true,false,true,false,false,false] rfl rfl (by kernel_rfl) (fun _ _ _ h => h) (Or.inl ⟨by rfl,?_⟩) hHeld ?_ ?_
            rotate_left
            · rintro w' ⟨s0,s1,s2,s3,s4,s5⟩
              go_simp
              with_reducible rfl
            rotate_left
            · simp only [Act.put,List.setIfInBounds_toArray,List.set_cons_zero,List.set_cons_succ,i64_w,i32_w,bne_self_eq_false]
              rfl
            refine pure_ (i:=35) (N:=some 155) (v:=?_) (a':=?_) #[true,true,true,true,true,true,true,true,true,true,true,true,true,true,true,true,true,true,true,true,true,true,true,true,true,true,true,true,true,true,true,true,true,true,true,true,false,true,false,true,true,true,false,true,false,false,false] rfl rfl (by kernel_rfl) (fun _ _ _ h => h) (Or.inl ⟨by rfl,?_⟩) ?_ ?_
            rotate_left
            · intro w'
              go_simp
              with_reducible rfl
            rotate_left
            · simp only [Act.put,List.setIfInBounds_toArray,List.set_cons_zero,List.set_cons_succ,i64_w,i32_w,bne_self_eq_false]
              rfl
            refine pure_ (i:=36) (N:=some 156) (v:=?_) (a':=?_) #[true,true,true,true,true,true,true,true,true,true,true,true,true,true,true,true,true,true,true,true,true,true,true,true,true,true,true,true,true,true,true,true,true,true,true,true,true,true,false,true,true,true,false,true,false,false,false] rfl rfl (by kernel_rfl) (fun _ _ _ h => h) (Or.inl ⟨by rfl,?_⟩) ?_ ?_
            rotate_left
            · intro w'
              go_simp
              with_reducible rfl
            rotate_left
            · simp only [Act.put,List.setIfInBounds_toArray,List.set_cons_zero,List.set_cons_succ,i64_w,i32_w,bne_self_eq_false]
              rfl
            refine take_ (i:=42) (N:=some 162) (v:=?_) (a':=?_) #[true,true,true,true,true,true,true,true,true,true,true,true,true,true,true,true,true,true,true,true,true,true,true,true,true,true,true,true,true,true,true,true,true,true,true,true,true,true,false,true,true,true,true,true,false,false,false] rfl rfl (by kernel_rfl) (fun _ _ _ h => h) (Or.inl ⟨by rfl,?_⟩) hHeld ?_ ?_
            rotate_left
            · rintro w' ⟨s0,s1,s2,s3,s4,s5⟩
              go_simp
              with_reducible rfl
            rotate_left
            · simp only [Act.put,List.setIfInBounds_toArray,List.set_cons_zero,List.set_cons_succ,i64_w,i32_w,bne_self_eq_false]
              rfl
            refine one_ (i:=38) (N:=some 158) #[true,true,true,true,true,true,true,true,true,true,true,true,true,true,true,true,true,true,true,true,true,true,true,true,true,true,true,true,true,true,true,true,true,true,true,true,true,true,true,true,true,true,true,true,false,false,false] rfl rfl (by kernel_rfl) (by decide) (fun K hK => ?_)
            refine goes_ Tryd.func17 (by kernel_rfl) rfl #[.pointer (some ⟨p.g,0,none⟩),.slice E ns ce] (by rfl) rfl rfl (by simp only [List.map_toArray,List.map_cons,List.map_nil];try rfl) ?_
            with_reducible refine (HSu.out).mono ?_
            rintro e wc ⟨rfl,hg⟩
            refine ⟨_,rfl,?_⟩
            have HPc:=Aside0.mk (HPb.out.gb hg);have HXc:=Aside0.mk (blk_kept HXb.out hg (by simp));have HSv:=Aside0.mk (pool_rsum HPc.out hkp HQ2.out.2 (ce:=ce) (HSm.out.below HPc.out.bel));clear hg HSu HPb HXb
            refine hK.out _ _ ⟨HPc.out.cl_ kc p.g hgi,HPc.out.cr_ kc p.h hhi,cell_of HXc.out rfl,cell_of HXc.out rfl,cell_of HXc.out rfl,cell_of HXc.out rfl⟩ (fun hHeld => ?_)
            clear hK K
            refine norm_ (a':=?_) ?_ ?_
            rotate_left
            · show Act.put _ (some 158) _ = _
              simp only [Act.put,List.setIfInBounds_toArray,List.set_cons_zero,List.set_cons_succ,i64_w,i32_w,bne_self_eq_false]
              rfl
            refine one_ (i:=44) (N:=some 164) #[true,true,true,true,true,true,true,true,true,true,true,true,true,true,true,true,true,true,true,true,true,true,true,true,true,true,true,true,true,true,true,true,true,true,true,true,true,true,true,true,true,true,true,true,true,false,false] rfl rfl (by kernel_rfl) (by decide) (fun K hK => ?_)
            refine goes_ Tryd.func18 (by kernel_rfl) rfl #[.pointer (some ⟨p.h,0,none⟩),.slice E ns ce] (by rfl) rfl rfl (by simp only [List.map_toArray,List.map_cons,List.map_nil];try rfl) ?_
            with_reducible refine (HSv.out).mono ?_
            rintro e wd ⟨rfl,hg⟩
            refine ⟨_,rfl,?_⟩
            have HPe:=Aside0.mk (HPc.out.gb hg);have HXe:=Aside0.mk (blk_kept HXc.out hg (by simp));clear hg HSv HPc HXc
            refine hK.out _ _ ⟨HPe.out.cl_ kc p.g hgi,HPe.out.cr_ kc p.h hhi,cell_of HXe.out rfl,cell_of HXe.out rfl,cell_of HXe.out rfl,cell_of HXe.out rfl⟩ (fun hHeld => ?_)
            clear hK K
            refine norm_ (a':=?_) ?_ ?_
            rotate_left
            · show Act.put _ (some 164) _ = _
              simp only [Act.put,List.setIfInBounds_toArray,List.set_cons_zero,List.set_cons_succ,i64_w,i32_w,bne_self_eq_false]
              rfl
            refine pure_ (i:=45) (N:=some 165) (v:=?_) (a':=?_) #[true,true,true,true,true,true,true,true,true,true,true,true,true,true,true,true,true,true,true,true,true,true,true,true,true,true,true,true,true,true,true,true,true,true,true,true,true,true,true,true,true,true,true,true,true,true,false] rfl rfl (by kernel_rfl) (fun _ _ _ h => h) (Or.inl ⟨by rfl,?_⟩) ?_ ?_
            rotate_left
            · intro w'
              go_simp
              with_reducible rfl
            rotate_left
            · simp only [Act.put,List.setIfInBounds_toArray,List.set_cons_zero,List.set_cons_succ,i64_w,i32_w,bne_self_eq_false]
              rfl
            refine pure_ (i:=46) (N:=some 166) (v:=?_) (a':=?_) #[true,true,true,true,true,true,true,true,true,true,true,true,true,true,true,true,true,true,true,true,true,true,true,true,true,true,true,true,true,true,true,true,true,true,true,true,true,true,true,true,true,true,true,true,true,true,true] rfl rfl (by kernel_rfl) (fun _ _ _ h => h) (Or.inl ⟨by rfl,?_⟩) ?_ ?_
            rotate_left
            · intro w'
              go_simp
              with_reducible rfl
            rotate_left
            · simp only [Act.put,List.setIfInBounds_toArray,List.set_cons_zero,List.set_cons_succ,i64_w,i32_w,bne_self_eq_false]
              rfl
            refine done_ (by kernel_rfl) ?_
            go_wp2_with fail
            go_roundg d
            case measure => omega
            case rel => exact ⟨j + 1,gl2,cl2,gr2,cr2,m + 1,(ps ++ [(⟨g2,A2,c2,h2,D2,d2,p.xs⟩ : Pr)]).set kc p2,rfl,rfl,by go_num,⟨by have:=HD.out;omega⟩,by omega,by omega,by omega,⟨by rw [List.length_set];exact HMl.out⟩,⟨by rw [map_set_same hkp HQ2.out.1,map_set_same hkp HQ2.out.2,List.map_append,List.map_append];exact HPe.out⟩⟩
          · have HPd:=Aside0.mk (HP0.out.gb (gb_drew _ none))
            have HXd:=Aside0.mk (show (wo.alloc (.cells #[.int .i64 x1,.int .i64 x2,.int .i64 x3,.int .i64 x4] 40)).drew.heap[wo.heap.size]? = some (.cells #[.int .i64 x1,.int .i64 x2,.int .i64 x3,.int .i64 x4] 40) from HX0.out)
            have HAct:=Aside0.mk (act_calls _ w.heap.size cf F p x1 x2 x3 x4 (HPd.out.ok kc p hkp) hx4)
            have hgo : ((q == 3) = false ∨ ((q == 3) = true ∧ decide ((m : Int) < 5) = false ∧ decide (m < 5) = false)):=by
              by_cases h3 : q = 3
              · exact .inr ⟨by simp [h3],decide_eq_false (by omega),decide_eq_false (by omega)⟩
              · exact .inl (by simpa using h3)
            clear hcl
            rcases hgo with hq3 | ⟨hq3,hm3,hm4⟩
            all_goals
              go_wp2_with fail
              refine start_ (n:=47) (S:=fun w' => w'.cell? ⟨gl,kc,none⟩ = some (.pointer (some ⟨p.g,0,none⟩)) ∧ w'.cell? ⟨gr,kc,none⟩ = some (.pointer (some ⟨p.h,0,none⟩)) ∧ w'.cell? ⟨wo.heap.size,0,none⟩ = some (.int .i64 x1) ∧ w'.cell? ⟨wo.heap.size,1,none⟩ = some (.int .i64 x2) ∧ w'.cell? ⟨wo.heap.size,2,none⟩ = some (.int .i64 x3) ∧ w'.cell? ⟨wo.heap.size,3,none⟩ = some (.int .i64 x4)) (ds:=[]) #[false,false,false,false,false,false,false,false,false,false,false,false,false,false,false,false,false,false,false,false,false,false,false,false,false,false,false,false,false,false,false,false,false,false,false,false,false,false,false,false,false,false,false,false,false,false,false] (by kernel_rfl) rfl rfl ⟨HPd.out.cl_ kc p.g hgi,HPd.out.cr_ kc p.h hhi,cell_of HXd.out rfl,cell_of HXd.out rfl,cell_of HXd.out rfl,cell_of HXd.out rfl⟩ (fun hHeld => ?_)
              refine pure_ (i:=0) (N:=some 120) (v:=?_) (a':=?_) #[true,false,false,false,false,false,false,false,false,false,false,false,false,false,false,false,false,false,false,false,false,false,false,false,false,false,false,false,false,false,false,false,false,false,false,false,false,false,false,false,false,false,false,false,false,false,false] rfl rfl (by kernel_rfl) (fun _ _ _ h => h) (Or.inl ⟨by rfl,?_⟩) ?_ ?_
              rotate_left
              · intro w'
                go_simp
                with_reducible rfl
              rotate_left
              · simp only [Act.put,List.setIfInBounds_toArray,List.set_cons_zero,List.set_cons_succ,i64_w,i32_w,bne_self_eq_false]
                rfl
              refine pure_ (i:=1) (N:=some 121) (v:=?_) (a':=?_) #[true,true,false,false,false,false,false,false,false,false,false,false,false,false,false,false,false,false,false,false,false,false,false,false,false,false,false,false,false,false,false,false,false,false,false,false,false,false,false,false,false,false,false,false,false,false,false] rfl rfl (by kernel_rfl) (fun _ _ _ h => h) (Or.inl ⟨by rfl,?_⟩) ?_ ?_
              rotate_left
              · intro w'
                go_simp
                with_reducible rfl
              rotate_left
              · simp only [Act.put,List.setIfInBounds_toArray,List.set_cons_zero,List.set_cons_succ,i64_w,i32_w,bne_self_eq_false]
                rfl
              refine pure_ (i:=2) (N:=some 122) (v:=?_) (a':=?_) #[true,true,true,false,false,false,false,false,false,false,false,false,false,false,false,false,false,false,false,false,false,false,false,false,false,false,false,false,false,false,false,false,false,false,false,false,false,false,false,false,false,false,false,false,false,false,false] rfl rfl (by kernel_rfl) (fun _ _ _ h => h) (Or.inl ⟨by rfl,?_⟩) ?_ ?_
              rotate_left
              · intro w'
                go_simp
                with_reducible rfl
              rotate_left
              · simp only [Act.put,List.setIfInBounds_toArray,List.set_cons_zero,List.set_cons_succ,i64_w,i32_w,bne_self_eq_false]
                rfl
              refine take_ (i:=3) (N:=some 123) (v:=?_) (a':=?_) #[true,true,true,true,false,false,false,false,false,false,false,false,false,false,false,false,false,false,false,false,false,false,false,false,false,false,false,false,false,false,false,false,false,false,false,false,false,false,false,false,false,false,false,false,false,false,false] rfl rfl (by kernel_rfl) (fun _ _ _ h => h) (Or.inl ⟨by rfl,?_⟩) hHeld ?_ ?_
              rotate_left
              · rintro w' ⟨s0,s1,s2,s3,s4,s5⟩
                go_simp
                with_reducible rfl
              rotate_left
              · simp only [Act.put,List.setIfInBounds_toArray,List.set_cons_zero,List.set_cons_succ,i64_w,i32_w,bne_self_eq_false]
                rfl
              refine pure_ (i:=4) (N:=some 124) (v:=?_) (a':=?_) #[true,true,true,true,true,false,false,false,false,false,false,false,false,false,false,false,false,false,false,false,false,false,false,false,false,false,false,false,false,false,false,false,false,false,false,false,false,false,false,false,false,false,false,false,false,false,false] rfl rfl (by kernel_rfl) (fun _ _ _ h => h) (Or.inl ⟨by rfl,?_⟩) ?_ ?_
              rotate_left
              · intro w'
                go_simp
                with_reducible rfl
              rotate_left
              · simp only [Act.put,List.setIfInBounds_toArray,List.set_cons_zero,List.set_cons_succ,i64_w,i32_w,bne_self_eq_false]
                rfl
              refine pure_ (i:=5) (N:=some 125) (v:=?_) (a':=?_) #[true,true,true,true,true,true,false,false,false,false,false,false,false,false,false,false,false,false,false,false,false,false,false,false,false,false,false,false,false,false,false,false,false,false,false,false,false,false,false,false,false,false,false,false,false,false,false] rfl rfl (by kernel_rfl) (fun _ _ _ h => h) (Or.inl ⟨by rfl,?_⟩) ?_ ?_
              rotate_left
              · intro w'
                go_simp
                with_reducible rfl
              rotate_left
              · simp only [Act.put,List.setIfInBounds_toArray,List.set_cons_zero,List.set_cons_succ,i64_w,i32_w,bne_self_eq_false]
                rfl
              refine pure_ (i:=7) (N:=some 127) (v:=?_) (a':=?_) #[true,true,true,true,true,true,false,true,false,false,false,false,false,false,false,false,false,false,false,false,false,false,false,false,false,false,false,false,false,false,false,false,false,false,false,false,false,false,false,false,false,false,false,false,false,false,false] rfl rfl (by kernel_rfl) (fun _ _ _ h => h) (Or.inl ⟨by rfl,?_⟩) ?_ ?_
              rotate_left
              · intro w'
                go_simp
                with_reducible rfl
              rotate_left
              · simp only [Act.put,List.setIfInBounds_toArray,List.set_cons_zero,List.set_cons_succ,i64_w,i32_w,bne_self_eq_false]
                rfl
              refine pure_ (i:=8) (N:=some 128) (v:=?_) (a':=?_) #[true,true,true,true,true,true,false,true,true,false,false,false,false,false,false,false,false,false,false,false,false,false,false,false,false,false,false,false,false,false,false,false,false,false,false,false,false,false,false,false,false,false,false,false,false,false,false] rfl rfl (by kernel_rfl) (fun _ _ _ h => h) (Or.inl ⟨by rfl,?_⟩) ?_ ?_
              rotate_left
              · intro w'
                go_simp
                with_reducible rfl
              rotate_left
              · simp only [Act.put,List.setIfInBounds_toArray,List.set_cons_zero,List.set_cons_succ,i64_w,i32_w,bne_self_eq_false]
                rfl
              refine pure_ (i:=9) (N:=some 129) (v:=?_) (a':=?_) #[true,true,true,true,true,true,false,true,true,true,false,false,false,false,false,false,false,false,false,false,false,false,false,false,false,false,false,false,false,false,false,false,false,false,false,false,false,false,false,false,false,false,false,false,false,false,false] rfl rfl (by kernel_rfl) (fun _ _ _ h => h) (Or.inl ⟨by rfl,?_⟩) ?_ ?_
              rotate_left
              · intro w'
                go_simp
                with_reducible rfl
              rotate_left
              · simp only [Act.put,List.setIfInBounds_toArray,List.set_cons_zero,List.set_cons_succ,i64_w,i32_w,bne_self_eq_false]
                rfl
              refine pure_ (i:=11) (N:=some 131) (v:=?_) (a':=?_) #[true,true,true,true,true,true,false,true,true,true,false,true,false,false,false,false,false,false,false,false,false,false,false,false,false,false,false,false,false,false,false,false,false,false,false,false,false,false,false,false,false,false,false,false,false,false,false] rfl rfl (by kernel_rfl) (fun _ _ _ h => h) (Or.inl ⟨by rfl,?_⟩) ?_ ?_
              rotate_left
              · intro w'
                go_simp
                with_reducible rfl
              rotate_left
              · simp only [Act.put,List.setIfInBounds_toArray,List.set_cons_zero,List.set_cons_succ,i64_w,i32_w,bne_self_eq_false]
                rfl
              refine pure_ (i:=12) (N:=some 132) (v:=?_) (a':=?_) #[true,true,true,true,true,true,false,true,true,true,false,true,true,false,false,false,false,false,false,false,false,false,false,false,false,false,false,false,false,false,false,false,false,false,false,false,false,false,false,false,false,false,false,false,false,false,false] rfl rfl (by kernel_rfl) (fun _ _ _ h => h) (Or.inl ⟨by rfl,?_⟩) ?_ ?_
              rotate_left
              · intro w'
                go_simp
                with_reducible rfl
              rotate_left
              · simp only [Act.put,List.setIfInBounds_toArray,List.set_cons_zero,List.set_cons_succ,i64_w,i32_w,bne_self_eq_false]
                rfl
              refine pure_ (i:=13) (N:=some 133) (v:=?_) (a':=?_) #[true,true,true,true,true,true,false,true,true,true,false,true,true,true,false,false,false,false,false,false,false,false,false,false,false,false,false,false,false,false,false,false,false,false,false,false,false,false,false,false,false,false,false,false,false,false,false] rfl rfl (by kernel_rfl) (fun _ _ _ h => h) (Or.inl ⟨by rfl,?_⟩) ?_ ?_
              rotate_left
              · intro w'
                go_simp
                with_reducible rfl
              rotate_left
              · simp only [Act.put,List.setIfInBounds_toArray,List.set_cons_zero,List.set_cons_succ,i64_w,i32_w,bne_self_eq_false]
                rfl
              refine take_ (i:=6) (N:=some 126) (v:=?_) (a':=?_) #[true,true,true,true,true,true,true,true,true,true,false,true,true,true,false,false,false,false,false,false,false,false,false,false,false,false,false,false,false,false,false,false,false,false,false,false,false,false,false,false,false,false,false,false,false,false,false] rfl rfl (by kernel_rfl) (fun _ _ _ h => h) (Or.inl ⟨by rfl,?_⟩) hHeld ?_ ?_
              rotate_left
              · rintro w' ⟨s0,s1,s2,s3,s4,s5⟩
                go_simp
                with_reducible rfl
              rotate_left
              · simp only [Act.put,List.setIfInBounds_toArray,List.set_cons_zero,List.set_cons_succ,i64_w,i32_w,bne_self_eq_false]
                rfl
              refine take_ (i:=10) (N:=some 130) (v:=?_) (a':=?_) #[true,true,true,true,true,true,true,true,true,true,true,true,true,true,false,false,false,false,false,false,false,false,false,false,false,false,false,false,false,false,false,false,false,false,false,false,false,false,false,false,false,false,false,false,false,false,false] rfl rfl (by kernel_rfl) (fun _ _ _ h => h) (Or.inl ⟨by rfl,?_⟩) hHeld ?_ ?_
              rotate_left
              · rintro w' ⟨s0,s1,s2,s3,s4,s5⟩
                go_simp
                with_reducible rfl
              rotate_left
              · simp only [Act.put,List.setIfInBounds_toArray,List.set_cons_zero,List.set_cons_succ,i64_w,i32_w,bne_self_eq_false]
                rfl
              refine take_ (i:=14) (N:=some 134) (v:=?_) (a':=?_) #[true,true,true,true,true,true,true,true,true,true,true,true,true,true,true,false,false,false,false,false,false,false,false,false,false,false,false,false,false,false,false,false,false,false,false,false,false,false,false,false,false,false,false,false,false,false,false] rfl rfl (by kernel_rfl) (fun _ _ _ h => h) (Or.inl ⟨by rfl,?_⟩) hHeld ?_ ?_
              rotate_left
              · rintro w' ⟨s0,s1,s2,s3,s4,s5⟩
                go_simp
                with_reducible rfl
              rotate_left
              · simp only [Act.put,List.setIfInBounds_toArray,List.set_cons_zero,List.set_cons_succ,i64_w,i32_w,bne_self_eq_false]
                rfl
              refine one_ (i:=15) (N:=some 135) #[true,true,true,true,true,true,true,true,true,true,true,true,true,true,true,true,false,false,false,false,false,false,false,false,false,false,false,false,false,false,false,false,false,false,false,false,false,false,false,false,false,false,false,false,false,false,false] rfl rfl (by kernel_rfl) (by decide) (fun K hK => ?_)
              refine goes_ Tryd.func15 (by kernel_rfl) rfl #[.agg #[.int .i64 x1,.int .i64 x2,.int .i64 x3,.int .i64 x4],.pointer (some ⟨p.g,0,none⟩),.pointer (some ⟨p.h,0,none⟩)] (by rfl) rfl rfl (by simp only [List.map_toArray,List.map_cons,List.map_nil];try rfl) ?_
              with_reducible refine (HAct.out).mono ?_
              rintro e wa ⟨rfl,hac⟩
              refine ⟨_,rfl,?_⟩
              have HXa:=Aside0.mk (acted_keeps hac HXd.out hxn);obtain ⟨p2,hg2,hh2,hpl⟩:=HPd.out.act hkp hac;have HPa:=Aside0.mk hpl;have HQ2:=Aside0.mk (And.intro hg2 hh2);have HSa:=Aside0.mk (pool_same hpl hkp hg2 hh2);clear hac hpl hg2 hh2 HAct HPd HXd
              refine hK.out _ _ ⟨HPa.out.cl_ kc p.g hgi,HPa.out.cr_ kc p.h hhi,cell_of HXa.out rfl,cell_of HXa.out rfl,cell_of HXa.out rfl,cell_of HXa.out rfl⟩ (fun hHeld => ?_)
              clear hK K
              refine norm_ (a':=?_) ?_ ?_
              rotate_left
              · show Act.put _ (some 135) _ = _
                simp only [Act.put,List.setIfInBounds_toArray,List.set_cons_zero,List.set_cons_succ,i64_w,i32_w,bne_self_eq_false]
                rfl
              refine pure_ (i:=16) (N:=some 136) (v:=?_) (a':=?_) #[true,true,true,true,true,true,true,true,true,true,true,true,true,true,true,true,true,false,false,false,false,false,false,false,false,false,false,false,false,false,false,false,false,false,false,false,false,false,false,false,false,false,false,false,false,false,false] rfl rfl (by kernel_rfl) (fun _ _ _ h => h) (Or.inl ⟨by rfl,?_⟩) ?_ ?_
              rotate_left
              · intro w'
                go_simp
                with_reducible rfl
              rotate_left
              · simp only [Act.put,List.setIfInBounds_toArray,List.set_cons_zero,List.set_cons_succ,i64_w,i32_w,bne_self_eq_false]
                rfl
              refine pure_ (i:=17) (N:=some 137) (v:=?_) (a':=?_) #[true,true,true,true,true,true,true,true,true,true,true,true,true,true,true,true,true,true,false,false,false,false,false,false,false,false,false,false,false,false,false,false,false,false,false,false,false,false,false,false,false,false,false,false,false,false,false] rfl rfl (by kernel_rfl) (fun _ _ _ h => h) (Or.inl ⟨by rfl,?_⟩) ?_ ?_
              rotate_left
              · intro w'
                go_simp
                with_reducible rfl
              rotate_left
              · simp only [Act.put,List.setIfInBounds_toArray,List.set_cons_zero,List.set_cons_succ,i64_w,i32_w,bne_self_eq_false]
                rfl
              refine pure_ (i:=18) (N:=some 138) (v:=?_) (a':=?_) #[true,true,true,true,true,true,true,true,true,true,true,true,true,true,true,true,true,true,true,false,false,false,false,false,false,false,false,false,false,false,false,false,false,false,false,false,false,false,false,false,false,false,false,false,false,false,false] rfl rfl (by kernel_rfl) (fun _ _ _ h => h) (Or.inl ⟨by rfl,?_⟩) ?_ ?_
              rotate_left
              · intro w'
                go_simp
                with_reducible rfl
              rotate_left
              · simp only [Act.put,List.setIfInBounds_toArray,List.set_cons_zero,List.set_cons_succ,i64_w,i32_w,bne_self_eq_false]
                rfl
              refine pure_ (i:=19) (N:=some 139) (v:=?_) (a':=?_) #[true,true,true,true,true,true,true,true,true,true,true,true,true,true,true,true,true,true,true,true,false,false,false,false,false,false,false,false,false,false,false,false,false,false,false,false,false,false,false,false,false,false,false,false,false,false,false] rfl rfl (by kernel_rfl) (fun _ _ _ h => h) (Or.inl ⟨by rfl,?_⟩) ?_ ?_
              rotate_left
              · intro w'
                go_simp
                with_reducible rfl
              rotate_left
              · simp only [Act.put,List.setIfInBounds_toArray,List.set_cons_zero,List.set_cons_succ,i64_w,i32_w,bne_self_eq_false]
                rfl
              refine pure_ (i:=20) (N:=some 140) (v:=?_) (a':=?_) #[true,true,true,true,true,true,true,true,true,true,true,true,true,true,true,true,true,true,true,true,true,false,false,false,false,false,false,false,false,false,false,false,false,false,false,false,false,false,false,false,false,false,false,false,false,false,false] rfl rfl (by kernel_rfl) (fun _ _ _ h => h) (Or.inl ⟨by rfl,?_⟩) ?_ ?_
              rotate_left
              · intro w'
                go_simp
                with_reducible rfl
              rotate_left
              · simp only [Act.put,List.setIfInBounds_toArray,List.set_cons_zero,List.set_cons_succ,i64_w,i32_w,bne_self_eq_false]
                rfl
              refine pure_ (i:=21) (N:=some 141) (v:=?_) (a':=?_) #[true,true,true,true,true,true,true,true,true,true,true,true,true,true,true,true,true,true,true,true,true,true,false,false,false,false,false,false,false,false,false,false,false,false,false,false,false,false,false,false,false,false,false,false,false,false,false] rfl rfl (by kernel_rfl) (fun _ _ _ h => h) (Or.inl ⟨by rfl,?_⟩) ?_ ?_
              rotate_left
              · intro w'
                go_simp
                with_reducible rfl
              rotate_left
              · simp only [Act.put,List.setIfInBounds_toArray,List.set_cons_zero,List.set_cons_succ,i64_w,i32_w,bne_self_eq_false]
                rfl
              refine pure_ (i:=23) (N:=some 143) (v:=?_) (a':=?_) #[true,true,true,true,true,true,true,true,true,true,true,true,true,true,true,true,true,true,true,true,true,true,false,true,false,false,false,false,false,false,false,false,false,false,false,false,false,false,false,false,false,false,false,false,false,false,false] rfl rfl (by kernel_rfl) (fun _ _ _ h => h) (Or.inl ⟨by rfl,?_⟩) ?_ ?_
              rotate_left
              · intro w'
                go_simp
                with_reducible rfl
              rotate_left
              · simp only [Act.put,List.setIfInBounds_toArray,List.set_cons_zero,List.set_cons_succ,i64_w,i32_w,bne_self_eq_false]
                rfl
              refine pure_ (i:=24) (N:=some 144) (v:=?_) (a':=?_) #[true,true,true,true,true,true,true,true,true,true,true,true,true,true,true,true,true,true,true,true,true,true,false,true,true,false,false,false,false,false,false,false,false,false,false,false,false,false,false,false,false,false,false,false,false,false,false] rfl rfl (by kernel_rfl) (fun _ _ _ h => h) (Or.inl ⟨by rfl,?_⟩) ?_ ?_
              rotate_left
              · intro w'
                go_simp
                with_reducible rfl
              rotate_left
              · simp only [Act.put,List.setIfInBounds_toArray,List.set_cons_zero,List.set_cons_succ,i64_w,i32_w,bne_self_eq_false]
                rfl
              refine pure_ (i:=25) (N:=some 145) (v:=?_) (a':=?_) #[true,true,true,true,true,true,true,true,true,true,true,true,true,true,true,true,true,true,true,true,true,true,false,true,true,true,false,false,false,false,false,false,false,false,false,false,false,false,false,false,false,false,false,false,false,false,false] rfl rfl (by kernel_rfl) (fun _ _ _ h => h) (Or.inl ⟨by rfl,?_⟩) ?_ ?_
              rotate_left
              · intro w'
                go_simp
                with_reducible rfl
              rotate_left
              · simp only [Act.put,List.setIfInBounds_toArray,List.set_cons_zero,List.set_cons_succ,i64_w,i32_w,bne_self_eq_false]
                rfl
              refine take_ (i:=22) (N:=some 142) (v:=?_) (a':=?_) #[true,true,true,true,true,true,true,true,true,true,true,true,true,true,true,true,true,true,true,true,true,true,true,true,true,true,false,false,false,false,false,false,false,false,false,false,false,false,false,false,false,false,false,false,false,false,false] rfl rfl (by kernel_rfl) (fun _ _ _ h => h) (Or.inl ⟨by rfl,?_⟩) hHeld ?_ ?_
              rotate_left
              · rintro w' ⟨s0,s1,s2,s3,s4,s5⟩
                go_simp
                with_reducible rfl
              rotate_left
              · simp only [Act.put,List.setIfInBounds_toArray,List.set_cons_zero,List.set_cons_succ,i64_w,i32_w,bne_self_eq_false]
                rfl
              refine take_ (i:=26) (N:=some 146) (v:=?_) (a':=?_) #[true,true,true,true,true,true,true,true,true,true,true,true,true,true,true,true,true,true,true,true,true,true,true,true,true,true,true,false,false,false,false,false,false,false,false,false,false,false,false,false,false,false,false,false,false,false,false] rfl rfl (by kernel_rfl) (fun _ _ _ h => h) (Or.inl ⟨by rfl,?_⟩) hHeld ?_ ?_
              rotate_left
              · rintro w' ⟨s0,s1,s2,s3,s4,s5⟩
                go_simp
                with_reducible rfl
              rotate_left
              · simp only [Act.put,List.setIfInBounds_toArray,List.set_cons_zero,List.set_cons_succ,i64_w,i32_w,bne_self_eq_false]
                rfl
              refine one_ (i:=27) (N:=some 147) #[true,true,true,true,true,true,true,true,true,true,true,true,true,true,true,true,true,true,true,true,true,true,true,true,true,true,true,true,false,false,false,false,false,false,false,false,false,false,false,false,false,false,false,false,false,false,false] rfl rfl (by kernel_rfl) (by decide) (fun K hK => ?_)
              refine goes_ Tryd.func16 (by kernel_rfl) rfl #[.pointer (some ⟨p.g,0,none⟩),.pointer (some ⟨p.h,0,none⟩)] (by rfl) rfl rfl (by simp only [List.map_toArray,List.map_cons,List.map_nil];try rfl) ?_
              with_reducible refine (HSa.out).mono ?_
              rintro e wb ⟨rfl,hg⟩
              refine ⟨_,rfl,?_⟩
              have HPb:=Aside0.mk (HPa.out.gb hg);have HXb:=Aside0.mk (blk_kept HXa.out hg (by simp));have HSu:=Aside0.mk (pool_sum HPb.out hkp HQ2.out.1 (ce:=ce) (HSm.out.below HPb.out.bel));clear hg HSa HPa HXa
              refine hK.out _ _ ⟨HPb.out.cl_ kc p.g hgi,HPb.out.cr_ kc p.h hhi,cell_of HXb.out rfl,cell_of HXb.out rfl,cell_of HXb.out rfl,cell_of HXb.out rfl⟩ (fun hHeld => ?_)
              clear hK K
              refine norm_ (a':=?_) ?_ ?_
              rotate_left
              · show Act.put _ (some 147) _ = _
                simp only [Act.put,List.setIfInBounds_toArray,List.set_cons_zero,List.set_cons_succ,i64_w,i32_w,bne_self_eq_false]
                rfl
              refine pure_ (i:=28) (N:=some 148) (v:=?_) (a':=?_) #[true,true,true,true,true,true,true,true,true,true,true,true,true,true,true,true,true,true,true,true,true,true,true,true,true,true,true,true,true,false,false,false,false,false,false,false,false,false,false,false,false,false,false,false,false,false,false] rfl rfl (by kernel_rfl) (fun _ _ _ h => h) (Or.inl ⟨by rfl,?_⟩) ?_ ?_
              rotate_left
              · intro w'
                go_simp
                with_reducible rfl
              rotate_left
              · simp only [Act.put,List.setIfInBounds_toArray,List.set_cons_zero,List.set_cons_succ,i64_w,i32_w,bne_self_eq_false]
                rfl
              refine pure_ (i:=29) (N:=some 149) (v:=?_) (a':=?_) #[true,true,true,true,true,true,true,true,true,true,true,true,true,true,true,true,true,true,true,true,true,true,true,true,true,true,true,true,true,true,false,false,false,false,false,false,false,false,false,false,false,false,false,false,false,false,false] rfl rfl (by kernel_rfl) (fun _ _ _ h => h) (Or.inl ⟨by rfl,?_⟩) ?_ ?_
              rotate_left
              · intro w'
                go_simp
                with_reducible rfl
              rotate_left
              · simp only [Act.put,List.setIfInBounds_toArray,List.set_cons_zero,List.set_cons_succ,i64_w,i32_w,bne_self_eq_false]
                rfl
              refine pure_ (i:=30) (N:=some 150) (v:=?_) (a':=?_) #[true,true,true,true,true,true,true,true,true,true,true,true,true,true,true,true,true,true,true,true,true,true,true,true,true,true,true,true,true,true,true,false,false,false,false,false,false,false,false,false,false,false,false,false,false,false,false] rfl rfl (by kernel_rfl) (fun _ _ _ h => h) (Or.inl ⟨by rfl,?_⟩) ?_ ?_
              rotate_left
              · intro w'
                go_simp
                with_reducible rfl
              rotate_left
              · simp only [Act.put,List.setIfInBounds_toArray,List.set_cons_zero,List.set_cons_succ,i64_w,i32_w,bne_self_eq_false]
                rfl
              refine pure_ (i:=31) (N:=some 151) (v:=?_) (a':=?_) #[true,true,true,true,true,true,true,true,true,true,true,true,true,true,true,true,true,true,true,true,true,true,true,true,true,true,true,true,true,true,true,true,false,false,false,false,false,false,false,false,false,false,false,false,false,false,false] rfl rfl (by kernel_rfl) (fun _ _ _ h => h) (Or.inl ⟨by rfl,?_⟩) ?_ ?_
              rotate_left
              · intro w'
                go_simp
                with_reducible rfl
              rotate_left
              · simp only [Act.put,List.setIfInBounds_toArray,List.set_cons_zero,List.set_cons_succ,i64_w,i32_w,bne_self_eq_false]
                rfl
              refine pure_ (i:=32) (N:=some 152) (v:=?_) (a':=?_) #[true,true,true,true,true,true,true,true,true,true,true,true,true,true,true,true,true,true,true,true,true,true,true,true,true,true,true,true,true,true,true,true,true,false,false,false,false,false,false,false,false,false,false,false,false,false,false] rfl rfl (by kernel_rfl) (fun _ _ _ h => h) (Or.inl ⟨by rfl,?_⟩) ?_ ?_
              rotate_left
              · intro w'
                go_simp
                with_reducible rfl
              rotate_left
              · simp only [Act.put,List.setIfInBounds_toArray,List.set_cons_zero,List.set_cons_succ,i64_w,i32_w,bne_self_eq_false]
                rfl
              refine pure_ (i:=33) (N:=some 153) (v:=?_) (a':=?_) #[true,true,true,true,true,true,true,true,true,true,true,true,true,true,true,true,true,true,true,true,true,true,true,true,true,true,true,true,true,true,true,true,true,true,false,false,false,false,false,false,false,false,false,false,false,false,false] rfl rfl (by kernel_rfl) (fun _ _ _ h => h) (Or.inl ⟨by rfl,?_⟩) ?_ ?_
              rotate_left
              · intro w'
                go_simp
                with_reducible rfl
              rotate_left
              · simp only [Act.put,List.setIfInBounds_toArray,List.set_cons_zero,List.set_cons_succ,i64_w,i32_w,bne_self_eq_false]
                rfl
              refine pure_ (i:=37) (N:=some 157) (v:=?_) (a':=?_) #[true,true,true,true,true,true,true,true,true,true,true,true,true,true,true,true,true,true,true,true,true,true,true,true,true,true,true,true,true,true,true,true,true,true,false,false,false,true,false,false,false,false,false,false,false,false,false] rfl rfl (by kernel_rfl) (fun _ _ _ h => h) (Or.inl ⟨by rfl,?_⟩) ?_ ?_
              rotate_left
              · intro w'
                go_simp
                with_reducible rfl
              rotate_left
              · simp only [Act.put,List.setIfInBounds_toArray,List.set_cons_zero,List.set_cons_succ,i64_w,i32_w,bne_self_eq_false]
                rfl
              refine pure_ (i:=39) (N:=some 159) (v:=?_) (a':=?_) #[true,true,true,true,true,true,true,true,true,true,true,true,true,true,true,true,true,true,true,true,true,true,true,true,true,true,true,true,true,true,true,true,true,true,false,false,false,true,false,true,false,false,false,false,false,false,false] rfl rfl (by kernel_rfl) (fun _ _ _ h => h) (Or.inl ⟨by rfl,?_⟩) ?_ ?_
              rotate_left
              · intro w'
                go_simp
                with_reducible rfl
              rotate_left
              · simp only [Act.put,List.setIfInBounds_toArray,List.set_cons_zero,List.set_cons_succ,i64_w,i32_w,bne_self_eq_false]
                rfl
              refine pure_ (i:=40) (N:=some 160) (v:=?_) (a':=?_) #[true,true,true,true,true,true,true,true,true,true,true,true,true,true,true,true,true,true,true,true,true,true,true,true,true,true,true,true,true,true,true,true,true,true,false,false,false,true,false,true,true,false,false,false,false,false,false] rfl rfl (by kernel_rfl) (fun _ _ _ h => h) (Or.inl ⟨by rfl,?_⟩) ?_ ?_
              rotate_left
              · intro w'
                go_simp
                with_reducible rfl
              rotate_left
              · simp only [Act.put,List.setIfInBounds_toArray,List.set_cons_zero,List.set_cons_succ,i64_w,i32_w,bne_self_eq_false]
                rfl
              refine pure_ (i:=41) (N:=some 161) (v:=?_) (a':=?_) #[true,true,true,true,true,true,true,true,true,true,true,true,true,true,true,true,true,true,true,true,true,true,true,true,true,true,true,true,true,true,true,true,true,true,false,false,false,true,false,true,true,true,false,false,false,false,false] rfl rfl (by kernel_rfl) (fun _ _ _ h => h) (Or.inl ⟨by rfl,?_⟩) ?_ ?_
              rotate_left
              · intro w'
                go_simp
                with_reducible rfl
              rotate_left
              · simp only [Act.put,List.setIfInBounds_toArray,List.set_cons_zero,List.set_cons_succ,i64_w,i32_w,bne_self_eq_false]
                rfl
              refine pure_ (i:=43) (N:=some 163) (v:=?_) (a':=?_) #[true,true,true,true,true,true,true,true,true,true,true,true,true,true,true,true,true,true,true,true,true,true,true,true,true,true,true,true,true,true,true,true,true,true,false,false,false,true,false,true,true,true,false,true,false,false,false] rfl rfl (by kernel_rfl) (fun _ _ _ h => h) (Or.inl ⟨by rfl,?_⟩) ?_ ?_
              rotate_left
              · intro w'
                go_simp
                with_reducible rfl
              rotate_left
              · simp only [Act.put,List.setIfInBounds_toArray,List.set_cons_zero,List.set_cons_succ,i64_w,i32_w,bne_self_eq_false]
                rfl
              refine take_ (i:=34) (N:=some 154) (v:=?_) (a':=?_) #[true,true,true,true,true,true,true,true,true,true,true,true,true,true,true,true,true,true,true,true,true,true,true,true,true,true,true,true,true,true,true,true,true,true,true,false,false,true,false,true,true,true,false,true,false,false,false] rfl rfl (by kernel_rfl) (fun _ _ _ h => h) (Or.inl ⟨by rfl,?_⟩) hHeld ?_ ?_
              rotate_left
              · rintro w' ⟨s0,s1,s2,s3,s4,s5⟩
                go_simp
                with_reducible rfl
              rotate_left
              · simp only [Act.put,List.setIfInBounds_toArray,List.set_cons_zero,List.set_cons_succ,i64_w,i32_w,bne_self_eq_false]
                rfl
              refine pure_ (i:=35) (N:=some 155) (v:=?_) (a':=?_) #[true,true,true,true,true,true,true,true,true,true,true,true,true,true,true,true,true,true,true,true,true,true,true,true,true,true,true,true,true,true,true,true,true,true,true,true,false,true,false,true,true,true,false,true,false,false,false] rfl rfl (by kernel_rfl) (fun _ _ _ h => h) (Or.inl ⟨by rfl,?_⟩) ?_ ?_
              rotate_left
              · intro w'
                go_simp
                with_reducible rfl
              rotate_left
              · simp only [Act.put,List.setIfInBounds_toArray,List.set_cons_zero,List.set_cons_succ,i64_w,i32_w,bne_self_eq_false]
                rfl
              refine pure_ (i:=36) (N:=some 156) (v:=?_) (a':=?_) #[true,true,true,true,true,true,true,true,true,true,true,true,true,true,true,true,true,true,true,true,true,true,true,true,true,true,true,true,true,true,true,true,true,true,true,true,true,true,false,true,true,true,false,true,false,false,false] rfl rfl (by kernel_rfl) (fun _ _ _ h => h) (Or.inl ⟨by rfl,?_⟩) ?_ ?_
              rotate_left
              · intro w'
                go_simp
                with_reducible rfl
              rotate_left
              · simp only [Act.put,List.setIfInBounds_toArray,List.set_cons_zero,List.set_cons_succ,i64_w,i32_w,bne_self_eq_false]
                rfl
              refine take_ (i:=42) (N:=some 162) (v:=?_) (a':=?_) #[true,true,true,true,true,true,true,true,true,true,true,true,true,true,true,true,true,true,true,true,true,true,true,true,true,true,true,true,true,true,true,true,true,true,true,true,true,true,false,true,true,true,true,true,false,false,false] rfl rfl (by kernel_rfl) (fun _ _ _ h => h) (Or.inl ⟨by rfl,?_⟩) hHeld ?_ ?_
              rotate_left
              · rintro w' ⟨s0,s1,s2,s3,s4,s5⟩
                go_simp
                with_reducible rfl
              rotate_left
              · simp only [Act.put,List.setIfInBounds_toArray,List.set_cons_zero,List.set_cons_succ,i64_w,i32_w,bne_self_eq_false]
                rfl
              refine one_ (i:=38) (N:=some 158) #[true,true,true,true,true,true,true,true,true,true,true,true,true,true,true,true,true,true,true,true,true,true,true,true,true,true,true,true,true,true,true,true,true,true,true,true,true,true,true,true,true,true,true,true,false,false,false] rfl rfl (by kernel_rfl) (by decide) (fun K hK => ?_)
              refine goes_ Tryd.func17 (by kernel_rfl) rfl #[.pointer (some ⟨p.g,0,none⟩),.slice E ns ce] (by rfl) rfl rfl (by simp only [List.map_toArray,List.map_cons,List.map_nil];try rfl) ?_
              with_reducible refine (HSu.out).mono ?_
              rintro e wc ⟨rfl,hg⟩
              refine ⟨_,rfl,?_⟩
              have HPc:=Aside0.mk (HPb.out.gb hg);have HXc:=Aside0.mk (blk_kept HXb.out hg (by simp));have HSv:=Aside0.mk (pool_rsum HPc.out hkp HQ2.out.2 (ce:=ce) (HSm.out.below HPc.out.bel));clear hg HSu HPb HXb
              refine hK.out _ _ ⟨HPc.out.cl_ kc p.g hgi,HPc.out.cr_ kc p.h hhi,cell_of HXc.out rfl,cell_of HXc.out rfl,cell_of HXc.out rfl,cell_of HXc.out rfl⟩ (fun hHeld => ?_)
              clear hK K
              refine norm_ (a':=?_) ?_ ?_
              rotate_left
              · show Act.put _ (some 158) _ = _
                simp only [Act.put,List.setIfInBounds_toArray,List.set_cons_zero,List.set_cons_succ,i64_w,i32_w,bne_self_eq_false]
                rfl
              refine one_ (i:=44) (N:=some 164) #[true,true,true,true,true,true,true,true,true,true,true,true,true,true,true,true,true,true,true,true,true,true,true,true,true,true,true,true,true,true,true,true,true,true,true,true,true,true,true,true,true,true,true,true,true,false,false] rfl rfl (by kernel_rfl) (by decide) (fun K hK => ?_)
              refine goes_ Tryd.func18 (by kernel_rfl) rfl #[.pointer (some ⟨p.h,0,none⟩),.slice E ns ce] (by rfl) rfl rfl (by simp only [List.map_toArray,List.map_cons,List.map_nil];try rfl) ?_
              with_reducible refine (HSv.out).mono ?_
              rintro e wd ⟨rfl,hg⟩
              refine ⟨_,rfl,?_⟩
              have HPe:=Aside0.mk (HPc.out.gb hg);have HXe:=Aside0.mk (blk_kept HXc.out hg (by simp));clear hg HSv HPc HXc
              refine hK.out _ _ ⟨HPe.out.cl_ kc p.g hgi,HPe.out.cr_ kc p.h hhi,cell_of HXe.out rfl,cell_of HXe.out rfl,cell_of HXe.out rfl,cell_of HXe.out rfl⟩ (fun hHeld => ?_)
              clear hK K
              refine norm_ (a':=?_) ?_ ?_
              rotate_left
              · show Act.put _ (some 164) _ = _
                simp only [Act.put,List.setIfInBounds_toArray,List.set_cons_zero,List.set_cons_succ,i64_w,i32_w,bne_self_eq_false]
                rfl
              refine pure_ (i:=45) (N:=some 165) (v:=?_) (a':=?_) #[true,true,true,true,true,true,true,true,true,true,true,true,true,true,true,true,true,true,true,true,true,true,true,true,true,true,true,true,true,true,true,true,true,true,true,true,true,true,true,true,true,true,true,true,true,true,false] rfl rfl (by kernel_rfl) (fun _ _ _ h => h) (Or.inl ⟨by rfl,?_⟩) ?_ ?_
              rotate_left
              · intro w'
                go_simp
                with_reducible rfl
              rotate_left
              · simp only [Act.put,List.setIfInBounds_toArray,List.set_cons_zero,List.set_cons_succ,i64_w,i32_w,bne_self_eq_false]
                rfl
              refine pure_ (i:=46) (N:=some 166) (v:=?_) (a':=?_) #[true,true,true,true,true,true,true,true,true,true,true,true,true,true,true,true,true,true,true,true,true,true,true,true,true,true,true,true,true,true,true,true,true,true,true,true,true,true,true,true,true,true,true,true,true,true,true] rfl rfl (by kernel_rfl) (fun _ _ _ h => h) (Or.inl ⟨by rfl,?_⟩) ?_ ?_
              rotate_left
              · intro w'
                go_simp
                with_reducible rfl
              rotate_left
              · simp only [Act.put,List.setIfInBounds_toArray,List.set_cons_zero,List.set_cons_succ,i64_w,i32_w,bne_self_eq_false]
                rfl
              refine done_ (by kernel_rfl) ?_
              go_wp2_with fail
              go_roundg d
              case measure => omega
              case rel => exact ⟨j + 1,gl,cl,gr,cr,m,ps.set kc p2,rfl,rfl,by go_num,⟨by have:=HD.out;omega⟩,by omega,hm1,hm5,⟨by rw [List.length_set];exact HM.out⟩,⟨by rw [map_set_same hkp HQ2.out.1,map_set_same hkp HQ2.out.2];exact HPe.out⟩⟩
    | succ k =>
      have hlt : j < n + 1:=by have:=HD.out;omega
      have hb1 : decide (j < n + 1) = true:=decide_eq_true hlt
      have hb2 : decide ((j : Int) < (n : Int) + 1) = true:=decide_eq_true (by omega)
      obtain ⟨zs,hzl,ho⟩:=HZ.out
      have hcl : w7.heap.size = w7.heap.size:=rfl
      obtain ⟨y,hy⟩ : ∃ y,zs[j]? = some y:=⟨zs[j],List.getElem?_eq_getElem (by omega)⟩
      have hcell : wr.cell? ⟨go,j,none⟩ = some (.int .u64 y):=by
        have h:=own_cell ho j 0 y hy (by decide) (.int .u64 y) rfl
        simpa [Ei] using h
      have hfz:=own_frozen ho j
      have HP:=Aside0.mk (own_put ho j 0 y 5 (.int .u64 5) hy (by decide) rfl)
      have HZl:=Aside0.mk (show (zs.set j 5).length = n + 1 by rw [List.length_set];exact hzl)
      have hk1 : (j : Int) < (n : Int) + 1:=by omega
      have hk0 : (0 : Int) ≤ (j : Int):=by omega
      clear ho hy hcl HZ hzl
      go_wp2_with fail
      go_roundg k
      case measure => omega
      case rel => exact ⟨j + 1,by go_num,⟨by have:=HD.out;omega⟩,by omega,⟨⟨_,HZl.out,by have h:=HP.out;simpa [Ei] using h⟩⟩,⟨World.grownBy.trans HG8.out (gb_setCell wr go j _)⟩⟩
end Go.Proofs.YtgjjfnjnjnbfgaaDoor.L
namespace Go.Proofs.YtgjjfnjnjnbfgaaDoor.L
open Go.RowKit Go.Proofs.YtgjjfnjnjnbfgaaDoorW.PrintWords Go.Proofs.YtgjjfnjnjnbfgaaDoorW.PrintLast Go.Proofs.YtgjjfnjnjnbfgaaDoor.H Go.Proofs.YtgjjfnjnjnbfgaaDoor.Q Go.Proofs.YtgjjfnjnjnbfgaaDoor.GLG
set_option linter.unusedVariables false
set_option linter.unusedSimpArgs false
theorem Script_all (w : World) (hL : LaidW w) (a0 : Int) (w0 : (Lit.int .i64 a0).wf = true) (a1 : Int) (w1 : (Lit.int .i64 a1).wf = true) (a2 : Int) (w2 : (Lit.int .i64 a2).wf = true) (a3 : Int) (w3 : (Lit.int .i64 a3).wf = true) (a4 : Int) (w4 : (Lit.int .i64 a4).wf = true) (a5 : Int) (w5 : (Lit.int .i64 a5).wf = true) (a6 : Int) (w6 : (Lit.int .i64 a6).wf = true) (a7 : Int) (w7 : (Lit.int .i64 a7).wf = true)
    (D : Option Addr) (cd : Nat) (us : List Int) (hx : ReadsInt w .u64 D us.length us) (hd : us.length ≤ cd) (hs2 : us.length * 8 ≤ 140737488351232) (hu : ∀ x ∈ us,(Lit.int .u64 x).wf = true)
    (A : Option Addr) (na c : Nat) (ls : List (Int × Int × Int × Int)) (hr : Acts w A na ls) (hc : na ≤ c) (hna : na * 32 ≤ 140737488351232)
    (E : Option Addr) (ce : Nat) (acc : List Int) (hq : ReadsInt w .i64 E acc.length acc) (hqd : acc.length ≤ ce) (hqs : acc.length * 8 ≤ 140737488351232) (hqu : ∀ x ∈ acc,(Lit.int .i64 x).wf = true) :
    Calls Tryd.prog 3 #[.agg #[.int .i64 a0,.int .i64 a1,.int .i64 a2,.int .i64 a3,.int .i64 a4,.int .i64 a5,.int .i64 a6,.int .i64 a7],.slice D us.length cd,.slice A na c,.slice E acc.length ce] w fun e w' => e = .returned (.bool true) ∧ Below w.heap.size w w':=by
  by_cases hk : checkV a0 a1 a2 a3 a4 a5 a6 a7 = 0
  · by_cases hn : us.length ≤ 64
    · exact Script_ok w hL a0 a1 a2 a3 a4 a5 a6 a7 D us.length cd us (rd_ints hx) hd hs2 (fun x hx => wf_u (hu x hx)) A na c ls hr hna E acc.length ce acc (rd_ints hq) hk hn
    · exact Script_bad w hL a0 a1 a2 a3 a4 a5 a6 a7 D us.length cd us (rd_ints hx) hd hs2 A na c E acc.length ce 1 (fun W A c => New_many W a0 a1 a2 a3 a4 a5 a6 a7 A us.length c hk (by omega)) (fun W A c => rNew_many W a0 a1 a2 a3 a4 a5 a6 a7 A us.length c hk (by omega))
  · exact Script_bad w hL a0 a1 a2 a3 a4 a5 a6 a7 D us.length cd us (rd_ints hx) hd hs2 A na c E acc.length ce _ (fun W A c => New_bad W a0 a1 a2 a3 a4 a5 a6 a7 A us.length c hk) (fun W A c => rNew_bad W a0 a1 a2 a3 a4 a5 a6 a7 A us.length c hk)
end Go.Proofs.YtgjjfnjnjnbfgaaDoor.L
namespace Go.Proofs.YtgjjfnjnjnbfgaaDoor.LaidKit
open Go.ChangeShapes Go.WideShapes Go.ChangeAt Go.RowKit Go.Proofs.YtgjjfnjnjnbfgaaDoor.GLG Go.Proofs.YtgjjfnjnjnbfgaaDoorW.PrintWords
abbrev laidL {H : Type} : List (String × DataW H):=[("backfill/ladder.rungs",Rows.laid_backfill_ladder_rungs)]
theorem own : ownKnob Tryd.prog.godebug = none:=by kernel_rfl
theorem gR : Tryd.prog.globalNamed "backfill/ladder.rungs" = some 0:=by kernel_rfl
theorem tR : (Tryd.prog.globals[0]?).map (·.type) = some 111:=by kernel_rfl
theorem door_met (os : Os) (args : Array Value) : laidMetH Tryd.prog laidL ((World.doorLaid Tryd.prog 14 os).forCall (fun _ _ => 0) ⟨#[],args,[]⟩).memory:=
  laidMetH_of_parts3 (fuel:=8) (laidMet_of_run' 8 (by kernel_rfl) (by kernel_rfl)) (by kernel_rfl) (by kernel_rfl)
set_option maxRecDepth 100000 in
theorem of_laid {W : World} (h : laidMetH Tryd.prog laidL W) : LaidW W:=by
  rw [MakeChecks.laidMetH_plain _ _ _ (by kernel_rfl)] at h
  obtain ⟨ps,⟨g0,t0,cs0,f0,p0,q0,hg0,ht0,hv0,hd0,_,_⟩,_⟩:=h
  obtain rfl:=Option.some.inj (gR.symm.trans hg0)
  obtain rfl:=Option.some.inj (tR.symm.trans ht0)
  obtain ⟨xs,m1,rfl,hx1,hlen,hn,hel⟩:=DataW.trod_array Tryd.underlying111 hd0
  have c1 : Tryd.prog.cellsOf 28 = 1:=by kernel_rfl
  simp only [Prod.mk.injEq] at hx1
  have hxs : xs.map (·.1) = rungsL.map (fun n => DataW.lit (.int .u64 n)):=by
    have:=hx1.1
    unfold Rows.laid_backfill_ladder_rungs at this
    injection this with this
    exact this.symm.trans rfl
  intro j hj
  have h1:=hel j hj
  rw [c1,Nat.mul_one] at h1
  have hxj : (xs[j]?).map (·.1) = some (DataW.lit (.int .u64 (rungsL.getD j 0))):=by
    rw [← List.getElem?_map,hxs,List.getElem?_map]
    have hlj : j < rungsL.length:=by show j < 32;exact hj
    simp [List.getElem?_eq_getElem hlj,List.getD_eq_getElem?_getD]
  cases hxe : xs[j]? with
  | none => rw [hxe] at hxj;cases hxj
  | some x =>
    rw [hxe] at hxj h1
    simp only [Option.map_some,Option.some.injEq] at hxj
    obtain ⟨n,e1,e2,_⟩:=DataW.trod_int Tryd.underlying28 h1
    rw [e2] at hxj
    have hnj : n = rungsL.getD j 0:=by simpa using hxj
    have hcell:=World.var?_cell hg0 hv0 j
    rw [hcell]
    have hg : cs0.toList[j]? = some (.int .u64 n):=by
      have:=congrArg (fun l => l[0]?) e1
      simpa [List.getElem?_take,List.getElem?_drop] using this
    rw [← Array.getElem?_toList,hg,hnj]
    unfold rd
    rw [Int.toNat_natCast]
end Go.Proofs.YtgjjfnjnjnbfgaaDoor.LaidKit
namespace Go.Proofs.YtgjjfnjnjnbfgaaDoorW.PrintWords
open Go.ChangeShapes Go.WideShapes
/-- A row's slice of whole numbers is no longer than its weight allows. -/
theorem sized_ints {H : Type} {enc : TypeId × Value → H} {P : Program} {W : World} {base : Nat} {spare : Nat → Bool} {held : Bool} {t e : TypeId} {k : IntKind} {a : Option Addr} {len cap : Nat} {d : DataW H} {ps : List MemPlace} {ts : List TypeId} {ds : List (DataW H)} {j : Nat}
    (hsz : (DataW.weightsEach P ts ds).all (· ≤ reachBytes) = true) (ht : ts[j]? = some t) (hd : ds[j]? = some d) (hu : P.underlying t = some (.slice e)) (he : P.underlying e = some (.int k)) (hc : P.cellsOf e = 1) {B : Nat} (hB : P.bytesOf e = B)
    (h : DataW.Trod enc P W base spare held t (.slice a len cap) d ps) : len * B ≤ 140737488351232:=by
  obtain ⟨fuel,hf⟩:=h
  rcases open_ints hu he hc hf with ⟨hcs,_⟩ | ⟨x,l,c,zs,hcs,_,hl,_,hz,hx,_,_⟩
  · simp [Value.cells] at hcs
    obtain ⟨rfl,rfl,rfl⟩:=hcs
    simp
  · simp [Value.cells] at hcs
    obtain ⟨rfl,rfl,rfl⟩:=hcs
    obtain ⟨hx,_⟩:=Prod.mk.inj hx
    subst hx
    have z:=sized_slice hsz ht hd hu
    rw [hB] at z
    have hl2 : len ≤ zs.length:=by
      rw [hz]
      split
      · exact hl
      · exact Nat.le_refl _
    have h1 : (lits (H:=H) k (zs.take len)).length + (lits (H:=H) k (zs.drop len)).length = zs.length:=by
      simp [lits]
      omega
    rw [h1] at z
    exact Nat.le_trans (Nat.mul_le_mul_right _ hl2) z
end Go.Proofs.YtgjjfnjnjnbfgaaDoorW.PrintWords
namespace Go.Proofs.YtgjjfnjnjnbfgaaDoor.Agg
open Go.ChangeShapes Go.WideShapes Go.ChangeAt Go.RowKit Go.Deep Go.Joins
variable {H : Type} {enc : TypeId × Value → H} {P : Program} {w : World} {base : Nat} {spare : Nat → Bool} {held : Bool}
theorem array8 {α : Type} {cs : Array α} (h : cs.size = 8) : ∃ c0 c1 c2 c3 c4 c5 c6 c7,cs = #[c0,c1,c2,c3,c4,c5,c6,c7]:=by
  obtain ⟨l⟩:=cs
  match l,h with
  | [c0,c1,c2,c3,c4,c5,c6,c7],_ => exact ⟨c0,c1,c2,c3,c4,c5,c6,c7,rfl⟩
theorem list8 {α : Type} {cs : List α} (h : cs.length = 8) : ∃ c0 c1 c2 c3 c4 c5 c6 c7,cs = [c0,c1,c2,c3,c4,c5,c6,c7]:=by
  match cs,h with
  | [c0,c1,c2,c3,c4,c5,c6,c7],_ => exact ⟨c0,c1,c2,c3,c4,c5,c6,c7,rfl⟩
theorem open_agg8 {r : Reach} {b0 : Nat} {t : TypeId} {f0 f1 f2 f3 f4 f5 f6 f7 : Field} {v : Value} {d : DataW H} {p : List MemPlace} (hs : P.underlying t = some (.struct #[f0,f1,f2,f3,f4,f5,f6,f7])) (hone : oneCellFields P #[f0,f1,f2,f3,f4,f5,f6,f7] = true) (hC : P.cellsOf t = 8)
    (hv : Value.okWide P w r b0 t v) (h : DataW.Trod enc P w base spare held t v d p) :
    ∃ (v0 v1 v2 v3 v4 v5 v6 v7 : Value) (y0 y1 y2 y3 y4 y5 y6 y7 : DataW H × List MemPlace) (n : Nat),v = .agg #[v0,v1,v2,v3,v4,v5,v6,v7] ∧ d = .agg [y0.1,y1.1,y2.1,y3.1,y4.1,y5.1,y6.1,y7.1] ∧ p = y0.2 ++ (y1.2 ++ (y2.2 ++ (y3.2 ++ (y4.2 ++ (y5.2 ++ (y6.2 ++ y7.2)))))) ∧
      DataW.trod enc P w base spare held n f0.type [v0] = some y0 ∧ DataW.trod enc P w base spare held n f1.type [v1] = some y1 ∧ DataW.trod enc P w base spare held n f2.type [v2] = some y2 ∧ DataW.trod enc P w base spare held n f3.type [v3] = some y3 ∧ DataW.trod enc P w base spare held n f4.type [v4] = some y4 ∧ DataW.trod enc P w base spare held n f5.type [v5] = some y5 ∧ DataW.trod enc P w base spare held n f6.type [v6] = some y6 ∧ DataW.trod enc P w base spare held n f7.type [v7] = some y7:=by
  obtain ⟨cs,rfl,hsz⟩:=okWide_struct hs hv
  obtain ⟨c0,c1,c2,c3,c4,c5,c6,c7,rfl⟩:=array8 (hsz.trans hC)
  obtain ⟨fuel,hf⟩:=h
  obtain ⟨xs,n,_,hx,hl,hlen,hf⟩:=DataW.trod_struct hs hf
  obtain ⟨y0,y1,y2,y3,y4,y5,y6,y7,rfl⟩:=list8 hlen
  simp only [Prod.mk.injEq] at hx
  obtain ⟨o0,k0⟩:=hone_of hone 0 f0 rfl
  obtain ⟨o1,k1⟩:=hone_of hone 1 f1 rfl
  obtain ⟨o2,k2⟩:=hone_of hone 2 f2 rfl
  obtain ⟨o3,k3⟩:=hone_of hone 3 f3 rfl
  obtain ⟨o4,k4⟩:=hone_of hone 4 f4 rfl
  obtain ⟨o5,k5⟩:=hone_of hone 5 f5 rfl
  obtain ⟨o6,k6⟩:=hone_of hone 6 f6 rfl
  obtain ⟨o7,k7⟩:=hone_of hone 7 f7 rfl
  have h0:=hf 0 f0 rfl
  have h1:=hf 1 f1 rfl
  have h2:=hf 2 f2 rfl
  have h3:=hf 3 f3 rfl
  have h4:=hf 4 f4 rfl
  have h5:=hf 5 f5 rfl
  have h6:=hf 6 f6 rfl
  have h7:=hf 7 f7 rfl
  exact ⟨c0,c1,c2,c3,c4,c5,c6,c7,y0,y1,y2,y3,y4,y5,y6,y7,n,rfl,hx.1,by simpa using hx.2,by simpa [Value.cells,o0,k0] using h0,by simpa [Value.cells,o1,k1] using h1,by simpa [Value.cells,o2,k2] using h2,by simpa [Value.cells,o3,k3] using h3,by simpa [Value.cells,o4,k4] using h4,by simpa [Value.cells,o5,k5] using h5,by simpa [Value.cells,o6,k6] using h6,by simpa [Value.cells,o7,k7] using h7⟩
end Go.Proofs.YtgjjfnjnjnbfgaaDoor.Agg
