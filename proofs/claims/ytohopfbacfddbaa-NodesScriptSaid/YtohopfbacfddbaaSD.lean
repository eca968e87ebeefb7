/- The document's set of nodes, claimed from and given to: what each call answers and leaves. Conditions: each theorem's own. -/
import Derived.Test.YtohopfbacfddbaaSC
namespace Go.Proofs.Ytohopfbacfddbaa.S
open Go.RowKit Go.Proofs.YtohopfbacfddbaaW.PrintWords Go.Proofs.YtohopfbacfddbaaW.PrintLast Go.Proofs.Ytohopfbacfddbaa.H
open Go.Proofs.Ytohopfbacfddbaa.N hiding gb_setCell gb_drewN gb_drew gb_refl gb_any gb_of_below below_of_gb below_gb own_open ne_of_ge cut_at
set_option linter.unusedVariables false
set_option linter.unusedSimpArgs false
/-- The number ahead of the one at j. -/
def prevI (xs : List Int) : Nat → Int
  | 0 => -1
  | i + 1 => rd xs (i : Int)
theorem ris_step {n : Nat} {xs : List Int} {j : Nat} (h : j < xs.length) : risB n (prevI xs j) (xs.drop j) = (if rd xs (j : Int) ≤ prevI xs j then false else if (n : Int) ≤ rd xs (j : Int) then false else risB n (prevI xs (j + 1)) (xs.drop (j + 1))) := by
  rw [drop_rd h, risB]; rfl
theorem all_take {xs : List Int} {f : Int → Bool} {j : Nat} (h : j < xs.length) : (xs.drop j).all f = (f (rd xs (j : Int)) && (xs.drop (j + 1)).all f) := by
  rw [drop_rd h, List.all_cons]
theorem rise_nodup {n : Nat} : ∀ {xs : List Int} {last : Int}, risB n last xs = true → xs.Pairwise (· < ·) ∧ ∀ x ∈ xs, last < x
  | [], _, _ => ⟨List.Pairwise.nil, fun x hx => by cases hx⟩
  | y :: r, last, h => by
    rw [risB] at h
    split at h
    · cases h
    · split at h
      · cases h
      · obtain ⟨h1, h2⟩ := rise_nodup h
        refine ⟨List.pairwise_cons.2 ⟨fun x hx => h2 x hx, h1⟩, fun x hx => ?_⟩
        rcases List.mem_cons.1 hx with rfl | hx
        · omega
        · have := h2 x hx; omega
/-- What turning answers and leaves. -/
def rTurnI (w : World) (B g ab n c : Nat) (t : Nat → Nat) (taken : Bool) (xs : List Int) (e : Ending) (w' : World) : Prop :=
  e = .returned (.int .i64 (mayE n t taken xs)) ∧ RefAt w' B g ab n c (doneT n t taken xs) ∧ Tn w w' (fun k => k = ab)
/-- The document's turning, behind its look at the numbers. -/
theorem mayE_bad {n : Nat} {t : Nat → Nat} {taken : Bool} {xs : List Int} (h : risB n (-1) xs = false) : mayE n t taken xs = 22 := by unfold mayE; rw [h]; rfl
theorem mayE_held {n : Nat} {t : Nat → Nat} {taken : Bool} {xs : List Int} (h : risB n (-1) xs = true) (h2 : xs.all (fun x => hasB n t x == taken) = false) : mayE n t taken xs = 21 := by unfold mayE; rw [h, h2]; rfl
theorem mayE_fine {n : Nat} {t : Nat → Nat} {taken : Bool} {xs : List Int} (h : risB n (-1) xs = true) (h2 : xs.all (fun x => hasB n t x == taken) = true) : mayE n t taken xs = 0 := by unfold mayE; rw [h, h2]; rfl
set_option maxHeartbeats 8000000 in
set_option maxRecDepth 100000 in
theorem rturn_calls (w : World) (B g ab n c : Nat) (t : Nat → Nat) (taken : Bool) (D : Option Addr) (l d : Nat) (xs : List Int) (h : RefAt w B g ab n c t) (hr : Rd (Ei .i64) w D l xs) (hD : ∀ ad, D = some ad → 0 < l → ad.block ≠ ab) :
    Calls Try.prog 33 #[.pointer (some ⟨g, 0, none⟩), .slice D l d, .bool taken] w (rTurnI w B g ab n c t taken xs) := by
  have hle := h.le
  have HL := Aside0.mk h
  have HR := Aside0.mk hr
  have HN := Aside0.mk hr.1
  have HNE := Aside0.mk hD
  have hl := hr.2.1
  clear h hr hD
  go_enter Try.func33, Try.ntmps33
  go_wp2_with fail
  go_loopg [7] l (fun k v7 wr => ∃ (j : Nat), v7 = .int .i64 j ∧ Aside0 (j + k = l) ∧ j ≤ l ∧ Aside0 (risB n (prevI xs j) (xs.drop j) = risB n (-1) xs) ∧ Aside0 (0 < j → 0 ≤ prevI xs j) ∧ Aside0 (w.grownBy wr none))
  case atStart => exact ⟨0, rfl, ⟨by omega⟩, by omega, ⟨rfl⟩, ⟨by omega⟩, ⟨gb_refl _ _⟩⟩
  case round =>
    obtain ⟨j, rfl, HD, hj, HE, HP, HG⟩ := hrel
    cases gk with
    | zero =>
      obtain rfl : j = l := by have := HD.out; omega
      have HE2 := Aside0.mk (show risB n (-1) xs = true by rw [← HE.out, List.drop_of_length_le (by rw [HN.out]; exact Nat.le_refl _)]; rfl)
      have HQ := Aside0.mk (risB_bound (by omega) HE2.out)
      obtain ⟨wo, rfl⟩ : ∃ wo, wo = wr := ⟨wr, rfl⟩
      clear HE HP
      go_wp2_with fail
      go_loopg [8] j (fun k v8 wr => ∃ (i : Nat), v8 = .int .i64 i ∧ Aside0 (i + k = j) ∧ i ≤ j ∧ Aside0 ((xs.drop i).all (fun x => hasB n t x == taken) = xs.all (fun x => hasB n t x == taken)) ∧ Aside0 (w.grownBy wr none))
      case atStart => exact ⟨0, rfl, ⟨by omega⟩, by omega, ⟨rfl⟩, HG⟩
      case round =>
        clear HD HG
        obtain ⟨i, rfl, HD, hi, HE, HG⟩ := hrel
        have HL1 := Aside0.mk (HL.out.gb HG.out)
        have HR1 := Aside0.mk (HR.out.gb HG.out)
        cases gk with
        | zero =>
          obtain rfl : i = j := by have := HD.out; omega
          have HE3 := Aside0.mk (show xs.all (fun x => hasB n t x == taken) = true by rw [← HE.out, List.drop_of_length_le (by rw [HN.out]; exact Nat.le_refl _)]; rfl)
          have HND := Aside0.mk (pw_nodup (rise_nodup HE2.out).1)
          have HT0 := Aside0.mk (Tn.gb0 HG.out (fun k => k = ab))
          obtain ⟨wo2, rfl⟩ : ∃ wo, wo = wr := ⟨wr, rfl⟩
          clear HE HD
          go_wp2_with fail
          go_loopg [9] i (fun k v9 wr => ∃ (j : Nat), v9 = .int .i64 j ∧ Aside0 (j + k = i) ∧ j ≤ i ∧ Aside0 (RefAt wr B g ab n c (turnT t (xs.take j))) ∧ Aside0 (Rd (Ei .i64) wr D i xs) ∧ Aside0 (Tn w wr (fun k => k = ab)))
          case atStart => exact ⟨0, rfl, ⟨by omega⟩, by omega, HL1, HR1, HT0⟩
          case round =>
            clear HL1 HR1 HT0 HG
            obtain ⟨j, rfl, HD, hj2, HL1, HR1, HT1⟩ := hrel
            cases gk with
            | zero =>
              obtain rfl : j = i := by have := HD.out; omega
              go_wp2
              go_ret
              refine ⟨by rw [mayE_fine HE2.out HE3.out]; rfl, ?_, HT1.out⟩
              have h := HL1.out
              rw [List.take_of_length_le (by rw [HN.out]; exact Nat.le_refl _)] at h
              unfold doneT
              rw [if_pos (mayE_fine HE2.out HE3.out)]
              exact h
            | succ d =>
              have hlt : j < i := by have := HD.out; omega
              have hltx : j < xs.length := by rw [HN.out]; exact hlt
              have hlt1 : decide ((j : Int) < i) = true := decide_eq_true (by omega)
              have hji : (j : Int) < (i : Int) := by omega
              obtain ⟨hx0, hx1⟩ := HQ.out _ (rd_mem hltx)
              have hx2 := List.all_eq_true.1 HE3.out _ (rd_mem hltx)
              rw [beq_iff_eq, hasB_nat hx0 hx1] at hx2
              obtain ⟨q, hq⟩ : ∃ q : Nat, rd xs (j : Int) = q := ⟨(rd xs (j : Int)).toNat, by omega⟩
              have HB := Aside0.mk (show taken = !bitT (turnT t (xs.take j)) q by
                have := bit_then t HND.out (fun x hx => (HQ.out x hx).1) hltx
                rw [hq, Int.toNat_natCast] at this
                rw [this, ← hx2, hq, Int.toNat_natCast])
              have HE4 := Aside0.mk (show turnT t (xs.take (j + 1)) = flip (turnT t (xs.take j)) q by rw [turn_step t hltx, hq, Int.toNat_natCast])
              have hq1 : (q : Int) < (n : Int) := by omega
              have hqn : q < n := by omega
              have HLd := Aside0.mk (HL1.out.gb (gb_drew wr none))
              have HRd := Aside0.mk (HR1.out.gb (gb_drew wr none))
              obtain ⟨ad, rfl, hcj⟩ := HRd.out.int j hlt
              rw [hq] at hcj
              have HQd := Aside0.mk hcj
              have hf3 := own_frozen HLd.out.own q
              have hcq := HL1.out.cell q hqn
              clear hcj hx0 hx1 hx2 hq
              go_wp2_with fail
              refine start_ (n := 11) (S := fun w' => w'.cell? ⟨g, 0, none⟩ = some (.slice (some ⟨ab, 0, none⟩) n c) ∧ w'.cell? (ad.add j) = some (.int .i64 (q : Nat))) (ds := [10]) #[false, false, false, false, false, false, false, false, false, false, false] (by kernel_rfl) rfl rfl ⟨HLd.out.c0, HQd.out⟩ (fun hHeld => ?_)
              refine pure_ (i := 0) (N := some 73) (v := ?_) (a' := ?_) #[true, false, false, false, false, false, false, false, false, false, false] rfl rfl (by kernel_rfl) (fun _ _ _ h => h) (Or.inl ⟨by rfl, ?_⟩) ?_ ?_
              rotate_left
              · intro w'
                go_simp
                with_reducible rfl
              rotate_left
              · simp only [Act.put, List.setIfInBounds_toArray, List.set_cons_zero, List.set_cons_succ, i64_w, i32_w]
                rfl
              refine pure_ (i := 1) (N := some 74) (v := ?_) (a' := ?_) #[true, true, false, false, false, false, false, false, false, false, false] rfl rfl (by kernel_rfl) (fun _ _ _ h => h) (Or.inl ⟨by rfl, ?_⟩) ?_ ?_
              rotate_left
              · intro w'
                go_simp
                with_reducible rfl
              rotate_left
              · simp only [Act.put, List.setIfInBounds_toArray, List.set_cons_zero, List.set_cons_succ, i64_w, i32_w]
                rfl
              refine pure_ (i := 2) (N := some 75) (v := ?_) (a' := ?_) #[true, true, true, false, false, false, false, false, false, false, false] rfl rfl (by kernel_rfl) (fun _ _ _ h => h) (Or.inl ⟨by rfl, ?_⟩) ?_ ?_
              rotate_left
              · intro w'
                go_simp
                with_reducible rfl
              rotate_left
              · simp only [Act.put, List.setIfInBounds_toArray, List.set_cons_zero, List.set_cons_succ, i64_w, i32_w]
                rfl
              refine pure_ (i := 4) (N := some 77) (v := ?_) (a' := ?_) #[true, true, true, false, true, false, false, false, false, false, false] rfl rfl (by kernel_rfl) (fun _ _ _ h => h) (Or.inl ⟨by rfl, ?_⟩) ?_ ?_
              rotate_left
              · intro w'
                go_simp
                with_reducible rfl
              rotate_left
              · simp only [Act.put, List.setIfInBounds_toArray, List.set_cons_zero, List.set_cons_succ, i64_w, i32_w]
                rfl
              refine pure_ (i := 5) (N := some 78) (v := ?_) (a' := ?_) #[true, true, true, false, true, true, false, false, false, false, false] rfl rfl (by kernel_rfl) (fun _ _ _ h => h) (Or.inl ⟨by rfl, ?_⟩) ?_ ?_
              rotate_left
              · intro w'
                go_simp
                with_reducible rfl
              rotate_left
              · simp only [Act.put, List.setIfInBounds_toArray, List.set_cons_zero, List.set_cons_succ, i64_w, i32_w]
                rfl
              refine pure_ (i := 6) (N := some 79) (v := ?_) (a' := ?_) #[true, true, true, false, true, true, true, false, false, false, false] rfl rfl (by kernel_rfl) (fun _ _ _ h => h) (Or.inl ⟨by rfl, ?_⟩) ?_ ?_
              rotate_left
              · intro w'
                go_simp
                with_reducible rfl
              rotate_left
              · simp only [Act.put, List.setIfInBounds_toArray, List.set_cons_zero, List.set_cons_succ, i64_w, i32_w]
                rfl
              refine pure_ (i := 8) (N := some 81) (v := ?_) (a' := ?_) #[true, true, true, false, true, true, true, false, true, false, false] rfl rfl (by kernel_rfl) (fun _ _ _ h => h) (Or.inl ⟨by rfl, ?_⟩) ?_ ?_
              rotate_left
              · intro w'
                go_simp
                with_reducible rfl
              rotate_left
              · simp only [Act.put, List.setIfInBounds_toArray, List.set_cons_zero, List.set_cons_succ, i64_w, i32_w]
                rfl
              refine take_ (i := 3) (N := some 76) (v := ?_) (a' := ?_) #[true, true, true, true, true, true, true, false, true, false, false] rfl rfl (by kernel_rfl) (fun _ _ _ h => h) (Or.inl ⟨by rfl, ?_⟩) hHeld ?_ ?_
              rotate_left
              · rintro w' ⟨s0, s1⟩
                go_simp
                with_reducible rfl
              rotate_left
              · simp only [Act.put, List.setIfInBounds_toArray, List.set_cons_zero, List.set_cons_succ, i64_w, i32_w]
                rfl
              refine take_ (i := 7) (N := some 80) (v := ?_) (a' := ?_) #[true, true, true, true, true, true, true, true, true, false, false] rfl rfl (by kernel_rfl) (fun _ _ _ h => h) (Or.inl ⟨by rfl, ?_⟩) hHeld ?_ ?_
              rotate_left
              · rintro w' ⟨s0, s1⟩
                go_simp
                with_reducible rfl
              rotate_left
              · simp only [Act.put, List.setIfInBounds_toArray, List.set_cons_zero, List.set_cons_succ, i64_w, i32_w]
                rfl
              refine pure_ (i := 9) (N := some 82) (v := ?_) (a' := ?_) #[true, true, true, true, true, true, true, true, true, true, false] rfl rfl (by kernel_rfl) (fun _ _ _ h => h) (Or.inl ⟨by rfl, ?_⟩) ?_ ?_
              rotate_left
              · intro w'
                go_simp
                with_reducible rfl
              rotate_left
              · simp only [Act.put, List.setIfInBounds_toArray, List.set_cons_zero, List.set_cons_succ, i64_w, i32_w]
                rfl
              refine last_ (i := 10) (N := none) #[true, true, true, true, true, true, true, true, true, true, true] rfl rfl (by kernel_rfl) (by decide) (fun K hK => ?_)
              refine skip_ (w1 := ?_) (by rfl) rfl ?_ ?_
              rotate_left
              · go_simp
                rfl
              refine hK.out _ _ ?_
              clear hK K
              refine done_ (by kernel_rfl) ?_
              go_wp2_with fail
              go_roundg d
              case measure => omega
              case rel =>
                refine ⟨j + 1, by go_num, ⟨by have := HD.out; omega⟩, by omega, ⟨?_⟩, ⟨?_⟩, ⟨?_⟩⟩
                · rw [HE4.out]
                  exact HLd.out.put q hqn taken HB.out
                · exact HRd.out.tn (Tn.set ab q _ (F := fun k => k = ab) rfl) (fun a ha hp he => HNE.out a ha (by omega) he)
                · exact (HT1.out.trans' (Tn.drew wr _)).trans' (Tn.set ab q _ rfl)
        | succ d =>
          have hlt : i < j := by have := HD.out; omega
          have hltx : i < xs.length := by rw [HN.out]; exact hlt
          have hlt1 : decide ((i : Int) < j) = true := decide_eq_true (by omega)
          have hji : (i : Int) < (j : Int) := by omega
          obtain ⟨hx0, hx1⟩ := HQ.out _ (rd_mem hltx)
          obtain ⟨q, hq⟩ : ∃ q : Nat, rd xs (i : Int) = q := ⟨(rd xs (i : Int)).toNat, by omega⟩
          have hz := HE.out
          rw [all_take hltx, hq] at hz
          have hc0 := HL1.out.c0
          have hq1 : (q : Int) < (n : Int) := by omega
          have hqn : q < n := by omega
          have hcq := HL1.out.cell q hqn
          obtain ⟨ad, rfl, hcj⟩ := HR1.out.int i hlt
          rw [hq] at hcj
          clear HE hx0 hx1 hq
          by_cases hb : bitT t q = taken
          · have hbb : (bitT t q == taken) = true := beq_iff_eq.2 hb
            have HE3 := Aside0.mk (show xs.all (fun x => hasB n t x == taken) = false by rw [← hz, has_bit hqn, hb]; cases taken <;> rfl)
            clear hz hb
            go_wp2_with fail
            go_quiet (fail)
            go_wp2_with fail
            go_ret
            refine ⟨by rw [mayE_held HE2.out HE3.out]; rfl, ?_, Tn.gb0 (World.grownBy.trans HG.out (gb_drewN _ _ none)) _⟩
            unfold doneT
            rw [mayE_held HE2.out HE3.out, if_neg (by decide)]
            exact HL1.out.gb (gb_drewN _ _ none)
          · have hbb : (bitT t q == taken) = false := by simpa using hb
            have HE3 := Aside0.mk (show ((xs.drop (i + 1)).all (fun x => hasB n t x == taken)) = xs.all (fun x => hasB n t x == taken) by
              rw [← hz, has_bit hqn, show (!bitT t q) = taken by cases h1 : bitT t q <;> cases h2 : taken <;> simp_all]; simp)
            clear hz hb
            go_wp2_with fail
            go_quiet (fail)
            go_wp2_with fail
            go_roundg d
            case measure => omega
            case rel => exact ⟨i + 1, by go_num, ⟨by have := HD.out; omega⟩, by omega, HE3, ⟨World.grownBy.trans HG.out (gb_drewN _ _ none)⟩⟩
    | succ d =>
      have hlt : j < l := by have := HD.out; omega
      have hltx : j < xs.length := by rw [HN.out]; exact hlt
      have hlt1 : decide ((j : Int) < l) = true := decide_eq_true (by omega)
      have hji : (j : Int) < (l : Int) := by omega
      have HL1 := Aside0.mk (HL.out.gb HG.out)
      have HR1 := Aside0.mk (HR.out.gb HG.out)
      have hc0 := HL1.out.c0
      obtain ⟨ad, rfl, hcj⟩ := HR1.out.int j hlt
      obtain ⟨x, hx⟩ : ∃ x, x = rd xs (j : Int) := ⟨_, rfl⟩
      have HX := Aside0.mk hx
      have hz := HE.out
      rw [ris_step hltx, ← hx] at hz
      rw [← hx] at hcj
      clear HE hx
      by_cases q1 : x < 0
      · have q1b : decide (x < 0) = true := decide_eq_true q1
        have HE2 := Aside0.mk (show risB n (-1) xs = false by
          rw [← hz]
          by_cases h0 : 0 < j
          · rw [if_pos (by have := HP.out h0; omega)]
          · obtain rfl : j = 0 := by omega
            rw [if_pos (by show x ≤ -1; omega)])
        clear hz q1
        go_wp2_with fail
        go_quiet (fail)
        go_wp2_with fail
        go_ret
        exact ⟨by rw [mayE_bad HE2.out]; rfl, by unfold doneT; rw [mayE_bad HE2.out, if_neg (by decide)]; exact HL1.out.gb (gb_drewN _ _ none), Tn.gb0 (World.grownBy.trans HG.out (gb_drewN _ _ none)) _⟩
      have q1b : decide (x < 0) = false := decide_eq_false q1
      by_cases q2 : (n : Int) ≤ x
      · have q2b : decide ((n : Int) ≤ x) = true := decide_eq_true q2
        have HE2 := Aside0.mk (show risB n (-1) xs = false by
          rw [← hz]
          split
          · rfl
          · rfl)
        clear hz q1 q2
        go_wp2_with fail
        go_quiet (fail)
        go_wp2_with fail
        go_ret
        exact ⟨by rw [mayE_bad HE2.out]; rfl, by unfold doneT; rw [mayE_bad HE2.out, if_neg (by decide)]; exact HL1.out.gb (gb_drewN _ _ none), Tn.gb0 (World.grownBy.trans HG.out (gb_drewN _ _ none)) _⟩
      have q2b : decide ((n : Int) ≤ x) = false := decide_eq_false q2
      rw [if_neg q2] at hz
      by_cases q0 : j = 0
      · have q3b : decide (0 < j) = false := decide_eq_false (by omega)
        have q3c : decide ((0 : Int) < (j : Int)) = false := decide_eq_false (by omega)
        rw [if_neg (show ¬ x ≤ prevI xs j by rw [q0]; show ¬ x ≤ -1; omega)] at hz
        have HE2 := Aside0.mk hz
        have HP2 := Aside0.mk (show 0 < j + 1 → 0 ≤ prevI xs (j + 1) from fun _ => by show 0 ≤ rd xs (j : Int); rw [← HX.out]; omega)
        clear hz q1 q2 q0
        go_wp2_with fail
        go_quiet (fail)
        go_wp2_with fail
        go_roundg d
        case measure => omega
        case rel => exact ⟨j + 1, by go_num, ⟨by have := HD.out; omega⟩, by omega, HE2, HP2, ⟨World.grownBy.trans HG.out (gb_drewN _ _ none)⟩⟩
      · obtain ⟨i, hi⟩ : ∃ i, j = i + 1 := ⟨j - 1, by omega⟩
        have q3b : decide (0 < j) = true := decide_eq_true (by omega)
        have q3c : decide ((0 : Int) < (j : Int)) = true := decide_eq_true (by omega)
        have hil : i < l := by omega
        obtain ⟨ad', e', hci⟩ := HR1.out.int i hil
        obtain rfl : ad' = ad := Option.some.inj e'.symm
        have hw1 : IntKind.i64.wrap ((j : Int) - 1) = (i : Int) := by rw [IntKind.wrap_i64]; omega
        have hii : (i : Int) < (l : Int) := by omega
        have HP2 := Aside0.mk (show 0 < j + 1 → 0 ≤ prevI xs (j + 1) from fun _ => by show 0 ≤ rd xs (j : Int); rw [← HX.out]; omega)
        have HV := Aside0.mk (show prevI xs j = rd xs (i : Int) by rw [hi]; rfl)
        clear e' q0 hi
        by_cases q4 : x ≤ rd xs (i : Int)
        · have q4b : decide (x ≤ rd xs (i : Int)) = true := decide_eq_true q4
          rw [if_pos (show x ≤ prevI xs j by rw [HV.out]; exact q4)] at hz
          have HE2 := Aside0.mk hz.symm
          clear hz q1 q2 q4
          go_wp2_with fail
          go_quiet (fail)
          go_wp2_with fail
          go_ret
          exact ⟨by rw [mayE_bad HE2.out]; rfl, by unfold doneT; rw [mayE_bad HE2.out, if_neg (by decide)]; exact HL1.out.gb (gb_drewN _ _ none), Tn.gb0 (World.grownBy.trans HG.out (gb_drewN _ _ none)) _⟩
        · have q4b : decide (x ≤ rd xs (i : Int)) = false := decide_eq_false q4
          rw [if_neg (show ¬ x ≤ prevI xs j by rw [HV.out]; exact q4)] at hz
          have HE2 := Aside0.mk hz
          clear hz q1 q2 q4
          go_wp2_with fail
          go_quiet (fail)
          go_wp2_with fail
          go_roundg d
          case measure => omega
          case rel => exact ⟨j + 1, by go_num, ⟨by have := HD.out; omega⟩, by omega, HE2, HP2, ⟨World.grownBy.trans HG.out (gb_drewN _ _ none)⟩⟩
set_option maxHeartbeats 8000000 in
set_option maxRecDepth 100000 in
theorem rClaim_calls (w : World) (B g ab n c : Nat) (t : Nat → Nat) (D : Option Addr) (l d : Nat) (xs : List Int) (h : RefAt w B g ab n c t) (hr : Rd (Ei .i64) w D l xs) (hD : ∀ ad, D = some ad → 0 < l → ad.block ≠ ab) :
    Calls Try.prog 26 #[.pointer (some ⟨g, 0, none⟩), .slice D l d] w (rTurnI w B g ab n c t true xs) := by
  have HC := Aside0.mk (rturn_calls w B g ab n c t true D l d xs h hr hD)
  clear h hr hD
  go_enter Try.func26, Try.ntmps26
  go_wp2_with fail
  refine (HC.out).mono ?_
  rintro e w1 ⟨rfl, h1, h2⟩
  have H1 := Aside0.mk h1
  have H2 := Aside0.mk h2
  clear h1 h2
  go_wp2_with fail
  go_ret
  exact ⟨rfl, H1.out, H2.out⟩
set_option maxHeartbeats 8000000 in
set_option maxRecDepth 100000 in
theorem rGive_calls (w : World) (B g ab n c : Nat) (t : Nat → Nat) (D : Option Addr) (l d : Nat) (xs : List Int) (h : RefAt w B g ab n c t) (hr : Rd (Ei .i64) w D l xs) (hD : ∀ ad, D = some ad → 0 < l → ad.block ≠ ab) :
    Calls Try.prog 27 #[.pointer (some ⟨g, 0, none⟩), .slice D l d] w (rTurnI w B g ab n c t false xs) := by
  have HC := Aside0.mk (rturn_calls w B g ab n c t false D l d xs h hr hD)
  clear h hr hD
  go_enter Try.func27, Try.ntmps27
  go_wp2_with fail
  refine (HC.out).mono ?_
  rintro e w1 ⟨rfl, h1, h2⟩
  have H1 := Aside0.mk h1
  have H2 := Aside0.mk h2
  clear h1 h2
  go_wp2_with fail
  go_ret
  exact ⟨rfl, H1.out, H2.out⟩
end Go.Proofs.Ytohopfbacfddbaa.S
