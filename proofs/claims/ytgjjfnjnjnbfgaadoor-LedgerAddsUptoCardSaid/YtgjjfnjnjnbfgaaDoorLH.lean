/- Contracts of the program's ledger: Charge, Fade, Clone: what each call answers and leaves. Conditions: each theorem's own. -/
import Derived.Test.YtgjjfnjnjnbfgaaDoorLF
namespace Go.Proofs.YtgjjfnjnjnbfgaaDoor.L
open Go.RowKit Go.Proofs.YtgjjfnjnjnbfgaaDoorW.PrintWords Go.Proofs.YtgjjfnjnjnbfgaaDoorW.PrintLast Go.Proofs.YtgjjfnjnjnbfgaaDoor.H Go.Proofs.YtgjjfnjnjnbfgaaDoor.Q Go.Proofs.YtgjjfnjnjnbfgaaDoor.GLG
set_option linter.unusedVariables false
set_option linter.unusedSimpArgs false

def chargeC (nodes : Int) (n : Nat) (a m : Int) : Int := if thereB n a then (if m < 0 then 1 else if nodes < m then 1 else 0) else 120
def chargeL (nodes : Int) (n : Nat) (xs : List Int) (a m : Int) : List Int := if chargeC nodes n a m = 0 then xs.set a.toNat (chargeV (rd xs a) m) else xs
/-- What Charge answers and leaves. -/
def ChargeI (w : World) (B g : Nat) (A : Option Addr) (n c : Nat) (nodes factor : Int) (xs : List Int) (a m : Int) (e : Ending) (w' : World) : Prop :=
  e = .returned (.int .i64 (chargeC nodes n a m)) ∧ LedAt w' B g A n c nodes factor (chargeL nodes n xs a m) ∧ Tn w w' (Foot g A)
set_option maxHeartbeats 8000000 in
set_option maxRecDepth 100000 in
theorem Charge_calls (w : World) (B g : Nat) (A : Option Addr) (n c : Nat) (nodes factor : Int) (xs : List Int) (a m : Int) (h : LedAt w B g A n c nodes factor xs) (hm : m ≤ 9223372036854775807) :
    Calls Tryd.prog 22 #[.pointer (some ⟨g, 0, none⟩), .int .i64 a, .int .i64 m] w (ChargeI w B g A n c nodes factor xs a m) := by
  have HL := Aside0.mk h
  have HT := Aside0.mk (there_calls w g A n c a h.c0)
  have hc1 := h.c1
  obtain ⟨hp0, hp1⟩ := h.nod
  clear h
  cases hb : thereB n a
  · have HE := Aside0.mk (show chargeC nodes n a m = 120 by unfold chargeC; rw [hb]; rfl)
    have HE2 := Aside0.mk (show chargeL nodes n xs a m = xs by unfold chargeL; rw [HE.out]; rfl)
    rw [hb] at HT
    clear hb
    go_enter Tryd.func22, Tryd.ntmps22
    go_wp2_with fail
    refine (HT.out).mono ?_
    rintro e w1 ⟨rfl, rfl⟩
    go_wp2
    go_ret
    exact ⟨by rw [HE.out]; rfl, by rw [HE2.out]; exact HL.out, Tn.refl _ _⟩
  · by_cases h0 : m < 0
    · have HE := Aside0.mk (show chargeC nodes n a m = 1 by unfold chargeC; rw [hb, if_pos rfl, if_pos h0])
      have HE2 := Aside0.mk (show chargeL nodes n xs a m = xs by unfold chargeL; rw [HE.out]; rfl)
      rw [hb] at HT
      have hb1 : decide (m < 0) = true := decide_eq_true h0
      clear hb
      go_enter Tryd.func22, Tryd.ntmps22
      go_wp2_with fail
      refine (HT.out).mono ?_
      rintro e w1 ⟨rfl, rfl⟩
      go_wp2
      go_ret
      exact ⟨by rw [HE.out]; rfl, by rw [HE2.out]; exact HL.out, Tn.refl _ _⟩
    · have hb1 : decide (m < 0) = false := decide_eq_false h0
      by_cases h1 : nodes < m
      · have HE := Aside0.mk (show chargeC nodes n a m = 1 by unfold chargeC; rw [hb, if_pos rfl, if_neg h0, if_pos h1])
        have HE2 := Aside0.mk (show chargeL nodes n xs a m = xs by unfold chargeL; rw [HE.out]; rfl)
        rw [hb] at HT
        have hb2 : decide (nodes < m) = true := decide_eq_true h1
        clear hb
        go_enter Tryd.func22, Tryd.ntmps22
        go_wp2_with fail
        refine (HT.out).mono ?_
        rintro e w1 ⟨rfl, rfl⟩
        go_wp2
        go_ret
        exact ⟨by rw [HE.out]; rfl, by rw [HE2.out]; exact HL.out, Tn.refl _ _⟩
      · have hb2 : decide (nodes < m) = false := decide_eq_false h1
        have HE := Aside0.mk (show chargeC nodes n a m = 0 by unfold chargeC; rw [hb, if_pos rfl, if_neg h0, if_neg h1])
        have HE2 := Aside0.mk (show chargeL nodes n xs a m = xs.set a.toNat (chargeV (rd xs a) m) by unfold chargeL; rw [HE.out, if_pos rfl])
        rw [hb] at HT
        obtain ⟨k, rfl, hk⟩ := there_true hb
        rw [Int.toNat_natCast] at HE2
        obtain ⟨ab, rfl, hne⟩ := led_form HL.out (by omega)
        have HU := Aside0.mk (show U (rd xs (k : Int)) from rdU HL.out.val (k : Int))
        have HUc := Aside0.mk (chargeU HU.out hm)
        have HLd := Aside0.mk (show LedAt w.drew B g (some ⟨ab, 0, none⟩) n c nodes factor xs from HL.out.gb (gb_drew w none))
        have HCh := Aside0.mk (charge_calls w.drew (rd xs (k : Int)) m HU.out hm)
        have hk1 : (k : Int) < (n : Int) := by omega
        have hk0 : (0 : Int) ≤ (k : Int) := by omega
        clear hb hne
        go_enter Tryd.func22, Tryd.ntmps22
        go_wp2_with fail
        refine (HT.out).mono ?_
        rintro e w1 ⟨rfl, rfl⟩
        go_wp2_with fail
        refine start_ (n := 18) (S := fun w' => w'.cell? ⟨g, 0, none⟩ = some (.slice (some ⟨ab, 0, none⟩) n c) ∧ w'.cell? ⟨ab, k, none⟩ = some (.int .u64 (rd xs (k : Int)))) (ds := [17]) #[false, false, false, false, false, false, false, false, false, false, false, false, false, false, false, false, false, false] (by kernel_rfl) rfl rfl ⟨HLd.out.c0, led_cell HLd.out k hk⟩ (fun hHeld => ?_)
        refine pure_ (i := 0) (N := some 25) (v := ?_) (a' := ?_) #[true, false, false, false, false, false, false, false, false, false, false, false, false, false, false, false, false, false] rfl rfl (by kernel_rfl) (fun _ _ _ h => h) (Or.inl ⟨by rfl, ?_⟩) ?_ ?_
        rotate_left
        · intro w'
          go_simp
          with_reducible rfl
        rotate_left
        · simp only [Act.put, List.setIfInBounds_toArray, List.set_cons_zero, List.set_cons_succ, i64_w, i32_w]
          rfl
        refine pure_ (i := 1) (N := some 26) (v := ?_) (a' := ?_) #[true, true, false, false, false, false, false, false, false, false, false, false, false, false, false, false, false, false] rfl rfl (by kernel_rfl) (fun _ _ _ h => h) (Or.inl ⟨by rfl, ?_⟩) ?_ ?_
        rotate_left
        · intro w'
          go_simp
          with_reducible rfl
        rotate_left
        · simp only [Act.put, List.setIfInBounds_toArray, List.set_cons_zero, List.set_cons_succ, i64_w, i32_w]
          rfl
        refine pure_ (i := 2) (N := some 27) (v := ?_) (a' := ?_) #[true, true, true, false, false, false, false, false, false, false, false, false, false, false, false, false, false, false] rfl rfl (by kernel_rfl) (fun _ _ _ h => h) (Or.inl ⟨by rfl, ?_⟩) ?_ ?_
        rotate_left
        · intro w'
          go_simp
          with_reducible rfl
        rotate_left
        · simp only [Act.put, List.setIfInBounds_toArray, List.set_cons_zero, List.set_cons_succ, i64_w, i32_w]
          rfl
        refine pure_ (i := 3) (N := some 28) (v := ?_) (a' := ?_) #[true, true, true, true, false, false, false, false, false, false, false, false, false, false, false, false, false, false] rfl rfl (by kernel_rfl) (fun _ _ _ h => h) (Or.inl ⟨by rfl, ?_⟩) ?_ ?_
        rotate_left
        · intro w'
          go_simp
          with_reducible rfl
        rotate_left
        · simp only [Act.put, List.setIfInBounds_toArray, List.set_cons_zero, List.set_cons_succ, i64_w, i32_w]
          rfl
        refine pure_ (i := 5) (N := some 30) (v := ?_) (a' := ?_) #[true, true, true, true, false, true, false, false, false, false, false, false, false, false, false, false, false, false] rfl rfl (by kernel_rfl) (fun _ _ _ h => h) (Or.inl ⟨by rfl, ?_⟩) ?_ ?_
        rotate_left
        · intro w'
          go_simp
          with_reducible rfl
        rotate_left
        · simp only [Act.put, List.setIfInBounds_toArray, List.set_cons_zero, List.set_cons_succ, i64_w, i32_w]
          rfl
        refine pure_ (i := 6) (N := some 31) (v := ?_) (a' := ?_) #[true, true, true, true, false, true, true, false, false, false, false, false, false, false, false, false, false, false] rfl rfl (by kernel_rfl) (fun _ _ _ h => h) (Or.inl ⟨by rfl, ?_⟩) ?_ ?_
        rotate_left
        · intro w'
          go_simp
          with_reducible rfl
        rotate_left
        · simp only [Act.put, List.setIfInBounds_toArray, List.set_cons_zero, List.set_cons_succ, i64_w, i32_w]
          rfl
        refine pure_ (i := 7) (N := some 32) (v := ?_) (a' := ?_) #[true, true, true, true, false, true, true, true, false, false, false, false, false, false, false, false, false, false] rfl rfl (by kernel_rfl) (fun _ _ _ h => h) (Or.inl ⟨by rfl, ?_⟩) ?_ ?_
        rotate_left
        · intro w'
          go_simp
          with_reducible rfl
        rotate_left
        · simp only [Act.put, List.setIfInBounds_toArray, List.set_cons_zero, List.set_cons_succ, i64_w, i32_w]
          rfl
        refine pure_ (i := 8) (N := some 33) (v := ?_) (a' := ?_) #[true, true, true, true, false, true, true, true, true, false, false, false, false, false, false, false, false, false] rfl rfl (by kernel_rfl) (fun _ _ _ h => h) (Or.inl ⟨by rfl, ?_⟩) ?_ ?_
        rotate_left
        · intro w'
          go_simp
          with_reducible rfl
        rotate_left
        · simp only [Act.put, List.setIfInBounds_toArray, List.set_cons_zero, List.set_cons_succ, i64_w, i32_w]
          rfl
        refine pure_ (i := 9) (N := some 34) (v := ?_) (a' := ?_) #[true, true, true, true, false, true, true, true, true, true, false, false, false, false, false, false, false, false] rfl rfl (by kernel_rfl) (fun _ _ _ h => h) (Or.inl ⟨by rfl, ?_⟩) ?_ ?_
        rotate_left
        · intro w'
          go_simp
          with_reducible rfl
        rotate_left
        · simp only [Act.put, List.setIfInBounds_toArray, List.set_cons_zero, List.set_cons_succ, i64_w, i32_w]
          rfl
        refine pure_ (i := 11) (N := some 36) (v := ?_) (a' := ?_) #[true, true, true, true, false, true, true, true, true, true, false, true, false, false, false, false, false, false] rfl rfl (by kernel_rfl) (fun _ _ _ h => h) (Or.inl ⟨by rfl, ?_⟩) ?_ ?_
        rotate_left
        · intro w'
          go_simp
          with_reducible rfl
        rotate_left
        · simp only [Act.put, List.setIfInBounds_toArray, List.set_cons_zero, List.set_cons_succ, i64_w, i32_w]
          rfl
        refine pure_ (i := 14) (N := some 39) (v := ?_) (a' := ?_) #[true, true, true, true, false, true, true, true, true, true, false, true, false, false, true, false, false, false] rfl rfl (by kernel_rfl) (fun _ _ _ h => h) (Or.inl ⟨by rfl, ?_⟩) ?_ ?_
        rotate_left
        · intro w'
          go_simp
          with_reducible rfl
        rotate_left
        · simp only [Act.put, List.setIfInBounds_toArray, List.set_cons_zero, List.set_cons_succ, i64_w, i32_w]
          rfl
        refine take_ (i := 4) (N := some 29) (v := ?_) (a' := ?_) #[true, true, true, true, true, true, true, true, true, true, false, true, false, false, true, false, false, false] rfl rfl (by kernel_rfl) (fun _ _ _ h => h) (Or.inl ⟨by rfl, ?_⟩) hHeld ?_ ?_
        rotate_left
        · rintro w' ⟨s0, s1⟩
          go_simp
          with_reducible rfl
        rotate_left
        · simp only [Act.put, List.setIfInBounds_toArray, List.set_cons_zero, List.set_cons_succ, i64_w, i32_w]
          rfl
        refine take_ (i := 10) (N := some 35) (v := ?_) (a' := ?_) #[true, true, true, true, true, true, true, true, true, true, true, true, false, false, true, false, false, false] rfl rfl (by kernel_rfl) (fun _ _ _ h => h) (Or.inl ⟨by rfl, ?_⟩) hHeld ?_ ?_
        rotate_left
        · rintro w' ⟨s0, s1⟩
          go_simp
          with_reducible rfl
        rotate_left
        · simp only [Act.put, List.setIfInBounds_toArray, List.set_cons_zero, List.set_cons_succ, i64_w, i32_w]
          rfl
        refine pure_ (i := 12) (N := some 37) (v := ?_) (a' := ?_) #[true, true, true, true, true, true, true, true, true, true, true, true, true, false, true, false, false, false] rfl rfl (by kernel_rfl) (fun _ _ _ h => h) (Or.inl ⟨by rfl, ?_⟩) ?_ ?_
        rotate_left
        · intro w'
          go_simp
          with_reducible rfl
        rotate_left
        · simp only [Act.put, List.setIfInBounds_toArray, List.set_cons_zero, List.set_cons_succ, i64_w, i32_w]
          rfl
        refine take_ (i := 13) (N := some 38) (v := ?_) (a' := ?_) #[true, true, true, true, true, true, true, true, true, true, true, true, true, true, true, false, false, false] rfl rfl (by kernel_rfl) (fun _ _ _ h => h) (Or.inl ⟨by rfl, ?_⟩) hHeld ?_ ?_
        rotate_left
        · rintro w' ⟨s0, s1⟩
          go_simp
          with_reducible rfl
        rotate_left
        · simp only [Act.put, List.setIfInBounds_toArray, List.set_cons_zero, List.set_cons_succ, i64_w, i32_w]
          rfl
        refine one_ (i := 15) (N := some 40) #[true, true, true, true, true, true, true, true, true, true, true, true, true, true, true, true, false, false] rfl rfl (by kernel_rfl) (by decide) (fun K hK => ?_)
        refine goes_ Tryd.func46 (by kernel_rfl) rfl #[.int .u64 (rd xs (k : Int)), .int .i64 m] (by rfl) rfl rfl (by simp only [List.map_toArray, List.map_cons, List.map_nil]; try rfl) ?_
        with_reducible refine (HCh.out).mono ?_
        rintro e w3 ⟨rfl, hb⟩
        refine ⟨_, rfl, ?_⟩
        have HL3 := Aside0.mk (HLd.out.gb (gb_of_below hb none)); have HT3 := Aside0.mk ((Tn.drew w (Foot g (some ⟨ab, 0, none⟩))).trans' (Tn.of_below hb _)); have hf3 := own_frozen HL3.out.own (k : Nat); clear hb HLd HCh
        refine hK.out _ _ ⟨HL3.out.c0, led_cell HL3.out k hk⟩ (fun hHeld => ?_)
        clear hK K
        refine norm_ (a' := ?_) ?_ ?_
        rotate_left
        · show Act.put _ (some 40) _ = _
          simp only [Act.put, List.setIfInBounds_toArray, List.set_cons_zero, List.set_cons_succ, i64_w, i32_w]
          rfl
        refine pure_ (i := 16) (N := some 41) (v := ?_) (a' := ?_) #[true, true, true, true, true, true, true, true, true, true, true, true, true, true, true, true, true, false] rfl rfl (by kernel_rfl) (fun _ _ _ h => h) (Or.inl ⟨by rfl, ?_⟩) ?_ ?_
        rotate_left
        · intro w'
          go_simp
          with_reducible rfl
        rotate_left
        · simp only [Act.put, List.setIfInBounds_toArray, List.set_cons_zero, List.set_cons_succ, i64_w, i32_w]
          rfl
        refine last_ (i := 17) (N := none) #[true, true, true, true, true, true, true, true, true, true, true, true, true, true, true, true, true, true] rfl rfl (by kernel_rfl) (by decide) (fun K hK => ?_)
        refine skip_ (w1 := ?_) (by rfl) rfl ?_ ?_
        rotate_left
        · go_simp
          rfl
        refine hK.out _ _ ?_
        clear hK K
        refine done_ (by kernel_rfl) ?_
        go_wp2
        go_ret
        refine ⟨by rw [HE.out]; rfl, ?_, HT3.out.trans' (Tn.set ab k _ (.inr ⟨_, rfl, rfl⟩))⟩
        rw [HE2.out]
        exact HL3.out.put k hk _ HUc.out
/-- What Fade leaves. -/
def FadeI (w : World) (B g : Nat) (A : Option Addr) (n c : Nat) (nodes factor : Int) (xs : List Int) (e : Ending) (w' : World) : Prop :=
  e = .returned (.tuple #[]) ∧ LedAt w' B g A n c nodes factor (xs.map (fun x => partV x factor)) ∧ Tn w w' (Foot g A)
def fadeTo (factor : Int) (xs : List Int) (j : Nat) : List Int := (xs.take j).map (fun x => partV x factor) ++ xs.drop j
theorem fade_rd {factor : Int} {xs : List Int} {j : Nat} (h : j < xs.length) : rd (fadeTo factor xs j) (j : Int) = xs[j] := by
  have : (fadeTo factor xs j)[j]? = some xs[j] := by
    unfold fadeTo
    rw [List.getElem?_append_right (by simp; omega)]
    simp [List.length_take, Nat.min_eq_left (Nat.le_of_lt h), List.getElem?_eq_getElem h]
  simp [rd, List.getD_eq_getElem?_getD, this]
theorem fade_step {factor : Int} {xs : List Int} {j : Nat} (h : j < xs.length) : (fadeTo factor xs j).set j (partV xs[j] factor) = fadeTo factor xs (j + 1) := by
  unfold fadeTo
  have hl : ((xs.take j).map (fun x => partV x factor)).length = j := by simp; omega
  rw [List.set_append_right _ _ (by omega), hl, Nat.sub_self, List.drop_eq_getElem_cons h, List.set_cons_zero, List.take_succ_eq_append_getElem h, List.map_append, List.append_assoc]
  rfl
set_option maxHeartbeats 8000000 in
set_option maxRecDepth 100000 in
theorem Fade_calls (w : World) (B g : Nat) (A : Option Addr) (n c : Nat) (nodes factor : Int) (xs : List Int) (h : LedAt w B g A n c nodes factor xs) (hn : n ≤ 9223372036854775807) :
    Calls Tryd.prog 21 #[.pointer (some ⟨g, 0, none⟩)] w (FadeI w B g A n c nodes factor xs) := by
  have HL := Aside0.mk h
  have hc0 := h.c0
  have HLn := Aside0.mk h.len
  clear h
  go_enter Tryd.func21, Tryd.ntmps21
  go_wp2_with fail
  go_loopg [10] n (fun k v10 wr => ∃ (j : Nat), v10 = .int .i64 j ∧ Aside0 (j + k = n) ∧ j ≤ n ∧ Aside0 (LedAt wr B g A n c nodes factor (fadeTo factor xs j)) ∧ Aside0 (Tn w wr (Foot g A)))
  case atStart => exact ⟨0, rfl, ⟨by omega⟩, by omega, ⟨by simpa [fadeTo] using HL.out⟩, ⟨Tn.refl _ _⟩⟩
  case round =>
    obtain ⟨j, rfl, HD, hj, HA, HT⟩ := hrel
    cases gk with
    | zero =>
      obtain rfl : j = n := by have := HD.out; omega
      go_wp2
      go_end0
      refine ⟨rfl, ?_, HT.out⟩
      have h := HA.out
      rwa [fadeTo, List.take_of_length_le (by rw [HLn.out]; exact Nat.le_refl _), List.drop_of_length_le (by rw [HLn.out]; exact Nat.le_refl _), List.append_nil] at h
    | succ d =>
      have hlt : j < n := by have := HD.out; omega
      have hb1 : decide (j < n) = true := decide_eq_true hlt
      have hlx : j < xs.length := by rw [HLn.out]; exact hlt
      obtain ⟨ab, rfl, hne⟩ := led_form HA.out (by omega)
      obtain ⟨ys, hys⟩ : ∃ ys, ys = fadeTo factor xs j := ⟨_, rfl⟩
      have HY := Aside0.mk (show rd ys (j : Int) = xs[j] by rw [hys]; exact fade_rd hlx)
      have HS := Aside0.mk (show ys.set j (partV (rd ys (j : Int)) factor) = fadeTo factor xs (j + 1) by rw [HY.out, hys]; exact fade_step hlx)
      have HA' : Aside0 (LedAt wr B g (some ⟨ab, 0, none⟩) n c nodes factor ys) := ⟨by rw [hys]; exact HA.out⟩
      have hc1 := led_cell HA'.out j hlt
      have hc2 := HA'.out.c0
      have HU := Aside0.mk (show U (rd ys (j : Int)) from rdU HA'.out.val (j : Int))
      have HUp := Aside0.mk (partU HU.out HA'.out.fac)
      have HLd := Aside0.mk (show LedAt wr.drew B g (some ⟨ab, 0, none⟩) n c nodes factor ys from HA'.out.gb (gb_drew wr none))
      have HTd := Aside0.mk (HT.out.trans' (Tn.drew wr (Foot g (some ⟨ab, 0, none⟩))))
      have HCh := Aside0.mk (fade_calls wr.drew (rd ys (j : Int)) factor HU.out HA'.out.fac)
      have hk1 : (j : Int) < (n : Int) := by omega
      have hk0 : (0 : Int) ≤ (j : Int) := by omega
      clear hys HA HA' HT hne
      go_wp2_with fail
      refine start_ (n := 14) (S := fun w' => w'.cell? ⟨g, 0, none⟩ = some (.slice (some ⟨ab, 0, none⟩) n c) ∧ w'.cell? ⟨g, 2, none⟩ = some (.int .u64 factor)) (ds := [13]) #[false, false, false, false, false, false, false, false, false, false, false, false, false, false] (by kernel_rfl) rfl rfl ⟨HLd.out.c0, HLd.out.c2⟩ (fun hHeld => ?_)
      refine pure_ (i := 0) (N := some 15) (v := ?_) (a' := ?_) #[true, false, false, false, false, false, false, false, false, false, false, false, false, false] rfl rfl (by kernel_rfl) (fun _ _ _ h => h) (Or.inl ⟨by rfl, ?_⟩) ?_ ?_
      rotate_left
      · intro w'
        go_simp
        with_reducible rfl
      rotate_left
      · simp only [Act.put, List.setIfInBounds_toArray, List.set_cons_zero, List.set_cons_succ, i64_w, i32_w]
        rfl
      refine pure_ (i := 1) (N := some 16) (v := ?_) (a' := ?_) #[true, true, false, false, false, false, false, false, false, false, false, false, false, false] rfl rfl (by kernel_rfl) (fun _ _ _ h => h) (Or.inl ⟨by rfl, ?_⟩) ?_ ?_
      rotate_left
      · intro w'
        go_simp
        with_reducible rfl
      rotate_left
      · simp only [Act.put, List.setIfInBounds_toArray, List.set_cons_zero, List.set_cons_succ, i64_w, i32_w]
        rfl
      refine pure_ (i := 2) (N := some 17) (v := ?_) (a' := ?_) #[true, true, true, false, false, false, false, false, false, false, false, false, false, false] rfl rfl (by kernel_rfl) (fun _ _ _ h => h) (Or.inl ⟨by rfl, ?_⟩) ?_ ?_
      rotate_left
      · intro w'
        go_simp
        with_reducible rfl
      rotate_left
      · simp only [Act.put, List.setIfInBounds_toArray, List.set_cons_zero, List.set_cons_succ, i64_w, i32_w]
        rfl
      refine pure_ (i := 3) (N := some 18) (v := ?_) (a' := ?_) #[true, true, true, true, false, false, false, false, false, false, false, false, false, false] rfl rfl (by kernel_rfl) (fun _ _ _ h => h) (Or.inl ⟨by rfl, ?_⟩) ?_ ?_
      rotate_left
      · intro w'
        go_simp
        with_reducible rfl
      rotate_left
      · simp only [Act.put, List.setIfInBounds_toArray, List.set_cons_zero, List.set_cons_succ, i64_w, i32_w]
        rfl
      refine pure_ (i := 5) (N := some 20) (v := ?_) (a' := ?_) #[true, true, true, true, false, true, false, false, false, false, false, false, false, false] rfl rfl (by kernel_rfl) (fun _ _ _ h => h) (Or.inl ⟨by rfl, ?_⟩) ?_ ?_
      rotate_left
      · intro w'
        go_simp
        with_reducible rfl
      rotate_left
      · simp only [Act.put, List.setIfInBounds_toArray, List.set_cons_zero, List.set_cons_succ, i64_w, i32_w]
        rfl
      refine pure_ (i := 6) (N := some 21) (v := ?_) (a' := ?_) #[true, true, true, true, false, true, true, false, false, false, false, false, false, false] rfl rfl (by kernel_rfl) (fun _ _ _ h => h) (Or.inl ⟨by rfl, ?_⟩) ?_ ?_
      rotate_left
      · intro w'
        go_simp
        with_reducible rfl
      rotate_left
      · simp only [Act.put, List.setIfInBounds_toArray, List.set_cons_zero, List.set_cons_succ, i64_w, i32_w]
        rfl
      refine pure_ (i := 7) (N := some 22) (v := ?_) (a' := ?_) #[true, true, true, true, false, true, true, true, false, false, false, false, false, false] rfl rfl (by kernel_rfl) (fun _ _ _ h => h) (Or.inl ⟨by rfl, ?_⟩) ?_ ?_
      rotate_left
      · intro w'
        go_simp
        with_reducible rfl
      rotate_left
      · simp only [Act.put, List.setIfInBounds_toArray, List.set_cons_zero, List.set_cons_succ, i64_w, i32_w]
        rfl
      refine pure_ (i := 8) (N := some 23) (v := ?_) (a' := ?_) #[true, true, true, true, false, true, true, true, true, false, false, false, false, false] rfl rfl (by kernel_rfl) (fun _ _ _ h => h) (Or.inl ⟨by rfl, ?_⟩) ?_ ?_
      rotate_left
      · intro w'
        go_simp
        with_reducible rfl
      rotate_left
      · simp only [Act.put, List.setIfInBounds_toArray, List.set_cons_zero, List.set_cons_succ, i64_w, i32_w]
        rfl
      refine pure_ (i := 9) (N := some 24) (v := ?_) (a' := ?_) #[true, true, true, true, false, true, true, true, true, true, false, false, false, false] rfl rfl (by kernel_rfl) (fun _ _ _ h => h) (Or.inl ⟨by rfl, ?_⟩) ?_ ?_
      rotate_left
      · intro w'
        go_simp
        with_reducible rfl
      rotate_left
      · simp only [Act.put, List.setIfInBounds_toArray, List.set_cons_zero, List.set_cons_succ, i64_w, i32_w]
        rfl
      refine take_ (i := 4) (N := some 19) (v := ?_) (a' := ?_) #[true, true, true, true, true, true, true, true, true, true, false, false, false, false] rfl rfl (by kernel_rfl) (fun _ _ _ h => h) (Or.inl ⟨by rfl, ?_⟩) hHeld ?_ ?_
      rotate_left
      · rintro w' ⟨s0, s1⟩
        go_simp
        with_reducible rfl
      rotate_left
      · simp only [Act.put, List.setIfInBounds_toArray, List.set_cons_zero, List.set_cons_succ, i64_w, i32_w]
        rfl
      refine take_ (i := 10) (N := some 25) (v := ?_) (a' := ?_) #[true, true, true, true, true, true, true, true, true, true, true, false, false, false] rfl rfl (by kernel_rfl) (fun _ _ _ h => h) (Or.inl ⟨by rfl, ?_⟩) hHeld ?_ ?_
      rotate_left
      · rintro w' ⟨s0, s1⟩
        go_simp
        with_reducible rfl
      rotate_left
      · simp only [Act.put, List.setIfInBounds_toArray, List.set_cons_zero, List.set_cons_succ, i64_w, i32_w]
        rfl
      refine one_ (i := 11) (N := some 26) #[true, true, true, true, true, true, true, true, true, true, true, true, false, false] rfl rfl (by kernel_rfl) (by decide) (fun K hK => ?_)
      refine goes_ Tryd.func44 (by kernel_rfl) rfl #[.int .u64 (rd ys (j : Int)), .int .u64 factor] (by rfl) rfl rfl (by simp only [List.map_toArray, List.map_cons, List.map_nil]; try rfl) ?_
      with_reducible refine (HCh.out).mono ?_
      rintro e w3 ⟨rfl, hb⟩
      refine ⟨_, rfl, ?_⟩
      have HL3 := Aside0.mk (HLd.out.gb (gb_of_below hb none)); have HT3 := Aside0.mk (HTd.out.trans' (Tn.of_below hb (Foot g (some ⟨ab, 0, none⟩)))); have hf3 := own_frozen HL3.out.own (j : Nat); have hq3 := led_cell HL3.out j hlt; clear hb HLd HTd HCh
      refine hK.out _ _ ⟨HL3.out.c0, HL3.out.c2⟩ (fun hHeld => ?_)
      clear hK K
      refine norm_ (a' := ?_) ?_ ?_
      rotate_left
      · show Act.put _ (some 26) _ = _
        simp only [Act.put, List.setIfInBounds_toArray, List.set_cons_zero, List.set_cons_succ, i64_w, i32_w]
        rfl
      refine pure_ (i := 12) (N := some 27) (v := ?_) (a' := ?_) #[true, true, true, true, true, true, true, true, true, true, true, true, true, false] rfl rfl (by kernel_rfl) (fun _ _ _ h => h) (Or.inl ⟨by rfl, ?_⟩) ?_ ?_
      rotate_left
      · intro w'
        go_simp
        with_reducible rfl
      rotate_left
      · simp only [Act.put, List.setIfInBounds_toArray, List.set_cons_zero, List.set_cons_succ, i64_w, i32_w]
        rfl
      refine last_ (i := 13) (N := none) #[true, true, true, true, true, true, true, true, true, true, true, true, true, true] rfl rfl (by kernel_rfl) (by decide) (fun K hK => ?_)
      refine skip_ (w1 := ?_) (by rfl) rfl ?_ ?_
      rotate_left
      · go_simp
        rfl
      refine hK.out _ _ ?_
      clear hK K
      refine done_ (by kernel_rfl) ?_
      go_wp2
      go_roundg d
      case measure => omega
      case rel =>
        refine ⟨j + 1, by go_num, ⟨by have := HD.out; omega⟩, by omega, ⟨?_⟩, ⟨HT3.out.trans' (Tn.set ab j _ (.inr ⟨_, rfl, rfl⟩))⟩⟩
        rw [← HS.out]
        exact HL3.out.put j hlt _ HUp.out
/-- What Clone answers: a ledger alike, of a row and a block of its own. -/
def CloneI (w : World) (n : Nat) (nodes factor : Int) (xs : List Int) (e : Ending) (w' : World) : Prop :=
  ∃ g A c, e = .returned (.pointer (some ⟨g, 0, none⟩)) ∧ LedAt w' w.heap.size g A n c nodes factor xs ∧ w.grownBy w' none
set_option maxHeartbeats 8000000 in
set_option maxRecDepth 100000 in
theorem Clone_calls (w : World) (B g : Nat) (A : Option Addr) (n c : Nat) (nodes factor : Int) (xs : List Int) (h : LedAt w B g A n c nodes factor xs) (hs : n * 8 ≤ 140737488355328) :
    Calls Tryd.prog 13 #[.pointer (some ⟨g, 0, none⟩)] w (CloneI w n nodes factor xs) := by
  have HL := Aside0.mk h
  have hc0 := h.c0
  have hc1 := h.c1
  have hc2 := h.c2
  have hlt := h.lt
  have HLn := Aside0.mk h.len
  have HG1 := Aside0.mk (World.grownBy_alloc w (.cells #[.slice A n c, .int .i64 nodes, .int .u64 factor] 50) none)
  have HB1 := Aside0.mk (heap_alloc_new w (.cells #[.slice A n c, .int .i64 nodes, .int .u64 factor] 50))
  have HC := Aside0.mk (clone_calls (w.alloc (.cells #[.slice A n c, .int .i64 nodes, .int .u64 factor] 50)) A n c xs (h.rd.gb (World.grownBy_alloc w _ none)) hs)
  clear h
  go_enter Tryd.func13, Tryd.ntmps13
  go_wp2_with fail
  refine (HC.out).mono ?_
  rintro e w2 ⟨v2, rfl, ho, hg⟩
  rw [HLn.out] at ho
  obtain ⟨A2, c2, rfl, -, -, ha⟩ := own_open HLn.out ho
  have HB2 := Aside0.mk (blk_kept HB1.out hg (by simp))
  have HO2 := Aside0.mk ho
  have HG2 := Aside0.mk (World.grownBy.trans HG1.out hg)
  have HA2 := Aside0.mk ha
  have hk2 := cell_of (j := 0) HB2.out rfl
  have hf2 := frozen_of (j := 0) HB2.out
  clear ho hg ha HB1 HG1
  go_wp2
  go_ret
  have hng : ∀ ad, A2 = some ad → ad.block ≠ w.heap.size := fun ad ha => by have := HA2.out ad ha; simp at this; omega
  have hT : Tn w2 (w2.setCell ⟨w.heap.size, 0, none⟩ (.slice A2 n c2)) (fun k => k = w.heap.size) := Tn.set w.heap.size 0 _ rfl
  refine ⟨w.heap.size, A2, c2, rfl, ⟨?_, ?_, HLn.out, hng, Nat.le_refl _, HL.out.val, HL.out.fac, HL.out.nod⟩, ?_⟩
  · have := blk_set 0 (.slice A2 n c2) HB2.out
    simpa using this
  · exact own_tn (own_mono HO2.out (by simp)) hT (fun k hk he => by cases A2 with | none => simp [Value.ownBlock] at hk | some ad => exact hng ad rfl (by simp [Value.ownBlock] at hk; omega))
  · exact gb_new HG2.out (gb_setCell w2 w.heap.size 0 _) (Nat.le_refl _)
end Go.Proofs.YtgjjfnjnjnbfgaaDoor.L
