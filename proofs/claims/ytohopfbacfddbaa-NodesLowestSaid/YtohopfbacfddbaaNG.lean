/- The law NodesLowest, walked: it answers true. Conditions: each theorem's own. -/
import Derived.Test.YtohopfbacfddbaaNF
import Derived.Test.YtohopfbacfddbaaWLast
namespace Go.Proofs.Ytohopfbacfddbaa.N
open Go.RowKit Go.Proofs.YtohopfbacfddbaaW.PrintWords Go.Proofs.YtohopfbacfddbaaW.PrintLast
set_option linter.unusedVariables false
set_option linter.unusedSimpArgs false

set_option maxHeartbeats 8000000 in
set_option maxRecDepth 100000 in
theorem Lowest_bad (w : World) (n : Int) (A : Option Addr) (c : Nat) (xs : List Int) (many : Int) (h : n < 1 ∨ 256 < n) :
    Calls Try.prog 3 #[.int .i64 n, .slice A xs.length c, .int .i64 many] w fun e w' => e = .returned (.bool true) ∧ Below w.heap.size w w' := by
  have H := Aside0.mk h
  clear h
  go_enter Try.func3, Try.ntmps3
  go_wp2_with fail
  refine (shown_calls _).mono ?_
  rintro e w1 ⟨rfl, hb⟩
  have HB := Aside0.mk hb
  clear hb
  go_wp2_with fail
  refine (New_bad _ n H.out).mono ?_
  rintro e w2 ⟨rfl, rfl⟩
  go_wp2
  go_ret
  exact ⟨rfl, HB.out⟩

set_option maxHeartbeats 8000000 in
set_option maxRecDepth 100000 in
theorem Lowest_good (w : World) (n : Nat) (A : Option Addr) (c : Nat) (xs : List Int) (many : Int) (h0 : 1 ≤ n) (h1 : n ≤ 256) (hr : ReadsInt w .i64 A xs.length xs) :
    Calls Try.prog 3 #[.int .i64 n, .slice A xs.length c, .int .i64 many] w fun e w' => e = .returned (.bool true) ∧ Below w.heap.size w w' := by
  have hl := hr.2.1
  have HR := Aside0.mk hr
  clear hr
  go_enter Try.func3, Try.ntmps3
  go_wp2_with fail
  refine (shown_calls _).mono ?_
  rintro e w1 ⟨rfl, hb⟩
  have HB := Aside0.mk hb
  clear hb
  go_wp2_with fail
  refine (New_ok _ n h0 h1).mono ?_
  rintro e w2 ⟨rfl, hs, hg⟩
  obtain ⟨g, hgg⟩ : ∃ g, g = w1.heap.size := ⟨_, rfl⟩
  rw [← hgg] at hs ⊢
  have hgw : w.heap.size ≤ g := by rw [hgg]; exact HB.out.size
  have HS := Aside0.mk hs
  have HB2 := Aside0.mk (below_gb HB.out hg HB.out.size (by simp))
  clear hs hg hgg HB
  go_wp2_with fail
  go_loopg [9] (min xs.length 2000) (fun k v9 wr => ∃ (j : Nat) (t : Nat → Nat), v9 = .int .i64 j ∧ Aside0 (j + k = min xs.length 2000) ∧ j ≤ xs.length ∧ Aside0 (SetAt wr g n t) ∧ Aside0 (Below w.heap.size w wr))
  case atStart => exact ⟨0, fun _ => 0, rfl, ⟨by omega⟩, by omega, ⟨HS.out⟩, ⟨HB2.out⟩⟩
  case round =>
    obtain ⟨j, t, rfl, HD, hj, HS, HB⟩ := hrel
    cases gk with
    | succ d =>
      have hlt : j < xs.length := by have := HD.out; omega
      have hlt2 : j < 2000 := by have := HD.out; omega
      have hb1 : decide (j < xs.length) = true := decide_eq_true (by omega)
      have hb2 : decide ((j : Int) < 2000) = true := decide_eq_true (by omega)
      obtain ⟨ad, rfl, hc⟩ := ri_at (HR.out.below (HB.out)) j hlt
      go_wp2_with fail
      refine (Claim_calls _ g n t _ _ [rd xs (j : Int)] (set_alloc HS.out _) (ri_lit wr [rd xs (j : Int)] (by simp)) (by intro ad h; cases h; have := set_lt HS.out; simp; omega)).mono ?_
      rintro e w4 ⟨rfl, hs, hg⟩
      have HS4 := Aside0.mk hs
      have HB4 := Aside0.mk (below_gb (below_alloc HB.out (.cells (nums .i64 [rd xs (j : Int)]).toArray 3)) hg (below_alloc HB.out _).size (by intro k hk; cases hk; exact hgw))
      clear hs hg HS HB
      go_wp2
      go_roundg d
      case measure => omega
      case rel => exact ⟨j + 1, _, by go_num, ⟨by have := HD.out; omega⟩, by omega, HS4, HB4⟩
    | zero =>
      have hdone : ¬ (j < xs.length ∧ j < 2000) := by have := HD.out; omega
      have htest : (decide (j < xs.length) = false) ∨ (decide (j < xs.length) = true ∧ decide ((j : Int) < 2000) = false) := by
        by_cases h : j < xs.length
        · exact .inr ⟨decide_eq_true (by omega), decide_eq_false (by omega)⟩
        · exact .inl (decide_eq_false (by omega))
      clear hdone HD HR
      rcases htest with hb1 | ⟨hb1, hb2⟩
      all_goals
        go_wp2_with fail
        refine (List_calls _ g n t HS.out).mono ?_
        rintro e w5 ⟨v, rfl, ho, hg⟩
        obtain ⟨F, hF⟩ : ∃ F, freeTo n t n = F := ⟨_, rfl⟩
        rw [hF] at ho
        have FE := Aside0.mk hF
        clear hF
        obtain ⟨AF, cF, rfl, hr, ha⟩ := own_open ho
        have HFr := Aside0.mk hr
        have HFa := Aside0.mk (ne_of_ge ha (set_lt HS.out))
        have HOF := Aside0.mk ho
        have HS5 := Aside0.mk (HS.out.kept hg (by simp))
        have HB5 := Aside0.mk (below_gb HB.out hg HB.out.size (by simp))
        clear HS HB hr ha ho hg
        by_cases hm1 : many < 1
        · have hb3 : decide (many < 1) = true := decide_eq_true hm1
          go_wp2_with fail
          refine (Take_small _ g many hm1).mono ?_
          rintro e w6 ⟨rfl, rfl⟩
          clear hm1
          go_wp2_with fail
          refine (List_calls _ g n t HS5.out).mono ?_
          rintro e w7 ⟨v, rfl, ho, hg⟩
          rw [FE.out] at ho
          obtain ⟨A7, c7, rfl, hr, ha⟩ := own_open ho
          have HR7 := Aside0.mk hr
          have HB7 := Aside0.mk (below_gb HB5.out hg HB5.out.size (by simp))
          have HF7 := Aside0.mk (ri_kept HFr.out hg (by simp))
          clear ho hr ha hg HB5 HS5 HFr
          go_wp2_with fail
          refine (sameInts_calls _ _ _ _ _ _ _ F F HR7.out HF7.out).mono ?_
          rintro e w8 ⟨rfl, hg⟩
          have HB8 := Aside0.mk (below_gb HB7.out hg HB7.out.size (by simp))
          clear hg HB7
          rw [decide_eq_true (rfl : F = F)]
          go_wp2
          go_ret
          exact ⟨rfl, HB8.out⟩
        · have hb3 : decide (many < 1) = false := decide_eq_false hm1
          by_cases hm2 : (F.length : Int) < many
          · have hb4 : decide ((F.length : Int) < many) = true := decide_eq_true hm2
            go_wp2_with fail
            refine (Take_many _ g n t many HS5.out (by rw [FE.out]; exact hm2) (by omega)).mono ?_
            rintro e w6 ⟨rfl, hg⟩
            have HS6 := Aside0.mk (HS5.out.kept hg (by simp))
            have HB6 := Aside0.mk (below_gb HB5.out hg HB5.out.size (by simp))
            have HF6 := Aside0.mk (ri_kept HFr.out hg (by simp))
            clear hm1 hm2 hg HS5 HB5 HFr
            go_wp2_with fail
            refine (List_calls _ g n t HS6.out).mono ?_
            rintro e w7 ⟨v, rfl, ho, hg⟩
            rw [FE.out] at ho
            obtain ⟨A7, c7, rfl, hr, ha⟩ := own_open ho
            have HR7 := Aside0.mk hr
            have HB7 := Aside0.mk (below_gb HB6.out hg HB6.out.size (by simp))
            have HF7 := Aside0.mk (ri_kept HF6.out hg (by simp))
            clear ho hr ha hg HB6 HS6 HF6
            go_wp2_with fail
            refine (sameInts_calls _ _ _ _ _ _ _ F F HR7.out HF7.out).mono ?_
            rintro e w8 ⟨rfl, hg⟩
            have HB8 := Aside0.mk (below_gb HB7.out hg HB7.out.size (by simp))
            clear hg HB7
            rw [decide_eq_true (rfl : F = F)]
            go_wp2
            go_ret
            exact ⟨rfl, HB8.out⟩
          · have hb4 : decide ((F.length : Int) < many) = false := decide_eq_false hm2
            obtain ⟨m, rfl⟩ : ∃ m : Nat, many = (m : Int) := Int.eq_ofNat_of_zero_le (by omega)
            obtain ⟨F', L, D, T⟩ := take_all (n := n) (t := t) (m := m) (by omega) (by rw [FE.out]; omega)
            have hFL := FE.out
            obtain rfl : F = F' := hFL.symm.trans T.eF
            have hmF := T.lD.1
            have hFn := T.lF
            have hcF := own_cap HOF.out
            have hm1' : 1 ≤ m := by omega
            have hm2' : m ≤ F.length := hmF
            have hwr : wrap64 ((F.length : Int) - (m : Int)) = (F.length : Int) - (m : Int) := by unfold wrap64; omega
            have hb5 : decide (F.length < m) = false := decide_eq_false (by omega)
            have lD := Aside0.mk T.lD.2
            have lL := Aside0.mk T.lL
            have lI : Aside0 (((F.length - m : Nat) : Int) = (F.length : Int) - (m : Int)) := ⟨by omega⟩
            have TL := Aside0.mk T
            have hT := Take_ok _ g n t m HS5.out (by rw [hFL]; exact hmF) hm1'
            rw [hFL, T.eL] at hT
            obtain ⟨i3, hi3, hz3⟩ := Option.map_eq_some_iff.1 (show (Try.prog.info? 3).map (fun i => (i.zero, i.size, i.bytes)) = some (some (.int .i64 0), 1, 8) by kernel_rfl)
            have hsz3 : i3.size = 1 := by injection hz3 with _ h; injection h with h _
            have HNA := Aside0.mk HFa.out
            have hcut := cut_to (P := Try.prog) 22 3 .i64 Try.underlying22 hi3 AF F.length cF (m : Int) (by omega) (by omega) hcF
            rw [Int.toNat_natCast] at hcut
            obtain ⟨AD, hcutD, hAD, hAB⟩ := cut_at (P := Try.prog) 22 3 .i64 Try.underlying22 hi3 hsz3 AF F.length cF m hmF
            have HcD := Aside0.mk hAD
            have HAB := Aside0.mk hAB
            have HT := Aside0.mk hT
            clear T hFL hT hAD hAB hm1 hm2 hi3 hz3 hsz3
            go_wp2_with fail
            refine (HT.out).mono ?_
            rintro e w6 ⟨v, rfl, ho, hs, hg⟩
            rw [lL.out] at ho
            obtain ⟨A6, c6, rfl, hr, ha⟩ := own_open ho
            have hgm := ne_of_ge ha (set_lt HS5.out)
            have HN6 := Aside0.mk hgm
            have HL6 := Aside0.mk hr
            have HS6 := Aside0.mk hs
            have HB6 := Aside0.mk (below_gb HB5.out hg HB5.out.size (by intro k hk; cases hk; exact hgw))
            have HF6 := Aside0.mk (ri_kept HFr.out hg HFa.out)
            have HT6 := Aside0.mk (HF6.out.take_ m hmF)
            have HD6 := Aside0.mk (HcD.out _ _ _ hcF HF6.out)
            rw [TL.out.eL] at HT6
            rw [TL.out.eD] at HD6
            have HNd : Aside0 (∀ ad, AD = some ad → some ad.block ≠ some g) := ⟨fun ad h => by obtain ⟨a0, h1, h2⟩ := HAB.out ad h; rw [h2]; exact HFa.out a0 h1⟩
            clear HS5 HB5 HFr ho hr ha hgm hs hg HcD HOF HFa HT HAB
            go_wp2_with fail
            have hg := gb_drew w6 none
            have HSd := Aside0.mk (HS6.out.kept hg (by simp)); have HBd := Aside0.mk (below_gb HB6.out hg HB6.out.size (by simp)); have HLd := Aside0.mk (ri_kept HL6.out hg (by simp)); have HFd := Aside0.mk (ri_kept HF6.out hg (by simp)); have HDd := Aside0.mk (ri_kept HD6.out hg (by simp)); have HTd := Aside0.mk (ri_kept HT6.out hg (by simp)); clear hg HS6 HB6 HL6 HF6 HD6 HT6
            refine start_ (n := 40) (S := fun w' => True) (ds := []) #[false, false, false, false, false, false, false, false, false, false, false, false, false, false, false, false, false, false, false, false, false, false, false, false, false, false, false, false, false, false, false, false, false, false, false, false, false, false, false, false] (by kernel_rfl) rfl rfl trivial (fun hHeld => ?_)
            refine pure_ (i := 0) (N := some 89) (v := ?_) (a' := ?_) #[true, false, false, false, false, false, false, false, false, false, false, false, false, false, false, false, false, false, false, false, false, false, false, false, false, false, false, false, false, false, false, false, false, false, false, false, false, false, false, false] rfl rfl (by kernel_rfl) (fun _ _ _ h => h) (Or.inl ⟨by rfl, ?_⟩) ?_ ?_
            rotate_left
            · intro w'
              go_simp
              with_reducible rfl
            rotate_left
            · simp only [Act.put, List.setIfInBounds_toArray, List.set_cons_zero, List.set_cons_succ, i64_w, i32_w]
              rfl
            refine pure_ (i := 1) (N := some 90) (v := ?_) (a' := ?_) #[true, true, false, false, false, false, false, false, false, false, false, false, false, false, false, false, false, false, false, false, false, false, false, false, false, false, false, false, false, false, false, false, false, false, false, false, false, false, false, false] rfl rfl (by kernel_rfl) (fun _ _ _ h => h) (Or.inl ⟨by rfl, ?_⟩) ?_ ?_
            rotate_left
            · intro w'
              go_simp
              with_reducible rfl
            rotate_left
            · simp only [Act.put, List.setIfInBounds_toArray, List.set_cons_zero, List.set_cons_succ, i64_w, i32_w]
              rfl
            refine pure_ (i := 2) (N := some 91) (v := ?_) (a' := ?_) #[true, true, true, false, false, false, false, false, false, false, false, false, false, false, false, false, false, false, false, false, false, false, false, false, false, false, false, false, false, false, false, false, false, false, false, false, false, false, false, false] rfl rfl (by kernel_rfl) (fun _ _ _ h => h) (Or.inl ⟨by rfl, ?_⟩) ?_ ?_
            rotate_left
            · intro w'
              go_simp
              with_reducible rfl
            rotate_left
            · simp only [Act.put, List.setIfInBounds_toArray, List.set_cons_zero, List.set_cons_succ, i64_w, i32_w]
              rfl
            refine pure_ (i := 3) (N := some 92) (v := ?_) (a' := ?_) #[true, true, true, true, false, false, false, false, false, false, false, false, false, false, false, false, false, false, false, false, false, false, false, false, false, false, false, false, false, false, false, false, false, false, false, false, false, false, false, false] rfl rfl (by kernel_rfl) (fun _ _ _ h => h) (Or.inl ⟨by rfl, ?_⟩) ?_ ?_
            rotate_left
            · intro w'
              go_simp
              with_reducible rfl
            rotate_left
            · simp only [Act.put, List.setIfInBounds_toArray, List.set_cons_zero, List.set_cons_succ, i64_w, i32_w]
              rfl
            refine pure_ (i := 4) (N := some 93) (v := ?_) (a' := ?_) #[true, true, true, true, true, false, false, false, false, false, false, false, false, false, false, false, false, false, false, false, false, false, false, false, false, false, false, false, false, false, false, false, false, false, false, false, false, false, false, false] rfl rfl (by kernel_rfl) (fun _ _ _ h => h) (Or.inl ⟨by rfl, ?_⟩) ?_ ?_
            rotate_left
            · intro w'
              go_simp
              with_reducible rfl
            rotate_left
            · simp only [Act.put, List.setIfInBounds_toArray, List.set_cons_zero, List.set_cons_succ, i64_w, i32_w]
              rfl
            refine pure_ (i := 5) (N := some 94) (v := ?_) (a' := ?_) #[true, true, true, true, true, true, false, false, false, false, false, false, false, false, false, false, false, false, false, false, false, false, false, false, false, false, false, false, false, false, false, false, false, false, false, false, false, false, false, false] rfl rfl (by kernel_rfl) (fun _ _ _ h => h) (Or.inl ⟨by rfl, ?_⟩) ?_ ?_
            rotate_left
            · intro w'
              go_simp
              with_reducible rfl
            rotate_left
            · simp only [Act.put, List.setIfInBounds_toArray, List.set_cons_zero, List.set_cons_succ, i64_w, i32_w]
              rfl
            refine pure_ (i := 6) (N := some 95) (v := ?_) (a' := ?_) #[true, true, true, true, true, true, true, false, false, false, false, false, false, false, false, false, false, false, false, false, false, false, false, false, false, false, false, false, false, false, false, false, false, false, false, false, false, false, false, false] rfl rfl (by kernel_rfl) (fun _ _ _ h => h) (Or.inl ⟨by rfl, ?_⟩) ?_ ?_
            rotate_left
            · intro w'
              go_simp
              with_reducible rfl
            rotate_left
            · simp only [Act.put, List.setIfInBounds_toArray, List.set_cons_zero, List.set_cons_succ, i64_w, i32_w]
              rfl
            refine pure_ (i := 7) (N := some 96) (v := ?_) (a' := ?_) #[true, true, true, true, true, true, true, true, false, false, false, false, false, false, false, false, false, false, false, false, false, false, false, false, false, false, false, false, false, false, false, false, false, false, false, false, false, false, false, false] rfl rfl (by kernel_rfl) (fun _ _ _ h => h) (Or.inl ⟨by rfl, ?_⟩) ?_ ?_
            rotate_left
            · intro w'
              go_simp
              with_reducible rfl
            rotate_left
            · simp only [Act.put, List.setIfInBounds_toArray, List.set_cons_zero, List.set_cons_succ, i64_w, i32_w]
              rfl
            refine pure_ (i := 8) (N := some 97) (v := ?_) (a' := ?_) #[true, true, true, true, true, true, true, true, true, false, false, false, false, false, false, false, false, false, false, false, false, false, false, false, false, false, false, false, false, false, false, false, false, false, false, false, false, false, false, false] rfl rfl (by kernel_rfl) (fun _ _ _ h => h) (Or.inl ⟨by rfl, ?_⟩) ?_ ?_
            rotate_left
            · intro w'
              go_simp
              with_reducible rfl
            rotate_left
            · simp only [Act.put, List.setIfInBounds_toArray, List.set_cons_zero, List.set_cons_succ, i64_w, i32_w]
              rfl
            refine pure_ (i := 9) (N := some 98) (v := ?_) (a' := ?_) #[true, true, true, true, true, true, true, true, true, true, false, false, false, false, false, false, false, false, false, false, false, false, false, false, false, false, false, false, false, false, false, false, false, false, false, false, false, false, false, false] rfl rfl (by kernel_rfl) (fun _ _ _ h => h) (Or.inl ⟨by rfl, ?_⟩) ?_ ?_
            rotate_left
            · intro w'
              go_simp
              with_reducible rfl
            rotate_left
            · simp only [Act.put, List.setIfInBounds_toArray, List.set_cons_zero, List.set_cons_succ, i64_w, i32_w]
              rfl
            refine pure_ (i := 10) (N := some 99) (v := ?_) (a' := ?_) #[true, true, true, true, true, true, true, true, true, true, true, false, false, false, false, false, false, false, false, false, false, false, false, false, false, false, false, false, false, false, false, false, false, false, false, false, false, false, false, false] rfl rfl (by kernel_rfl) (fun _ _ _ h => h) (Or.inl ⟨by rfl, ?_⟩) ?_ ?_
            rotate_left
            · intro w'
              go_simp
              with_reducible rfl
            rotate_left
            · simp only [Act.put, List.setIfInBounds_toArray, List.set_cons_zero, List.set_cons_succ, i64_w, i32_w]
              rfl
            refine pure_ (i := 11) (N := some 100) (v := ?_) (a' := ?_) #[true, true, true, true, true, true, true, true, true, true, true, true, false, false, false, false, false, false, false, false, false, false, false, false, false, false, false, false, false, false, false, false, false, false, false, false, false, false, false, false] rfl rfl (by kernel_rfl) (fun _ _ _ h => h) (Or.inl ⟨by rfl, ?_⟩) ?_ ?_
            rotate_left
            · intro w'
              go_simp
              with_reducible rfl
            rotate_left
            · simp only [Act.put, List.setIfInBounds_toArray, List.set_cons_zero, List.set_cons_succ, i64_w, i32_w]
              rfl
            refine pure_ (i := 12) (N := some 101) (v := ?_) (a' := ?_) #[true, true, true, true, true, true, true, true, true, true, true, true, true, false, false, false, false, false, false, false, false, false, false, false, false, false, false, false, false, false, false, false, false, false, false, false, false, false, false, false] rfl rfl (by kernel_rfl) (fun _ _ _ h => h) (Or.inl ⟨by rfl, ?_⟩) ?_ ?_
            rotate_left
            · intro w'
              go_simp
              with_reducible rfl
            rotate_left
            · simp only [Act.put, List.setIfInBounds_toArray, List.set_cons_zero, List.set_cons_succ, i64_w, i32_w]
              rfl
            refine pure_ (i := 13) (N := some 102) (v := ?_) (a' := ?_) #[true, true, true, true, true, true, true, true, true, true, true, true, true, true, false, false, false, false, false, false, false, false, false, false, false, false, false, false, false, false, false, false, false, false, false, false, false, false, false, false] rfl rfl (by kernel_rfl) (fun _ _ _ h => h) (Or.inl ⟨by rfl, ?_⟩) ?_ ?_
            rotate_left
            · intro w'
              go_simp
              with_reducible rfl
            rotate_left
            · simp only [Act.put, List.setIfInBounds_toArray, List.set_cons_zero, List.set_cons_succ, i64_w, i32_w]
              rfl
            refine pure_ (i := 14) (N := some 103) (v := ?_) (a' := ?_) #[true, true, true, true, true, true, true, true, true, true, true, true, true, true, true, false, false, false, false, false, false, false, false, false, false, false, false, false, false, false, false, false, false, false, false, false, false, false, false, false] rfl rfl (by kernel_rfl) (fun _ _ _ h => h) (Or.inl ⟨by rfl, ?_⟩) ?_ ?_
            rotate_left
            · intro w'
              go_simp
              with_reducible rfl
            rotate_left
            · simp only [Act.put, List.setIfInBounds_toArray, List.set_cons_zero, List.set_cons_succ, i64_w, i32_w]
              rfl
            refine pure_ (i := 15) (N := some 104) (v := ?_) (a' := ?_) #[true, true, true, true, true, true, true, true, true, true, true, true, true, true, true, true, false, false, false, false, false, false, false, false, false, false, false, false, false, false, false, false, false, false, false, false, false, false, false, false] rfl rfl (by kernel_rfl) (fun _ _ _ h => h) (Or.inl ⟨by rfl, ?_⟩) ?_ ?_
            rotate_left
            · intro w'
              go_simp
              with_reducible rfl
            rotate_left
            · simp only [Act.put, List.setIfInBounds_toArray, List.set_cons_zero, List.set_cons_succ, i64_w, i32_w]
              rfl
            refine pure_ (i := 16) (N := some 105) (v := ?_) (a' := ?_) #[true, true, true, true, true, true, true, true, true, true, true, true, true, true, true, true, true, false, false, false, false, false, false, false, false, false, false, false, false, false, false, false, false, false, false, false, false, false, false, false] rfl rfl (by kernel_rfl) (fun _ _ _ h => h) (Or.inl ⟨by rfl, ?_⟩) ?_ ?_
            rotate_left
            · intro w'
              go_simp
              with_reducible rfl
            rotate_left
            · simp only [Act.put, List.setIfInBounds_toArray, List.set_cons_zero, List.set_cons_succ, i64_w, i32_w]
              rfl
            refine pure_ (i := 17) (N := some 106) (v := ?_) (a' := ?_) #[true, true, true, true, true, true, true, true, true, true, true, true, true, true, true, true, true, true, false, false, false, false, false, false, false, false, false, false, false, false, false, false, false, false, false, false, false, false, false, false] rfl rfl (by kernel_rfl) (fun _ _ _ h => h) (Or.inl ⟨by rfl, ?_⟩) ?_ ?_
            rotate_left
            · intro w'
              go_simp
              with_reducible rfl
            rotate_left
            · simp only [Act.put, List.setIfInBounds_toArray, List.set_cons_zero, List.set_cons_succ, i64_w, i32_w]
              rfl
            refine pure_ (i := 18) (N := some 107) (v := ?_) (a' := ?_) #[true, true, true, true, true, true, true, true, true, true, true, true, true, true, true, true, true, true, true, false, false, false, false, false, false, false, false, false, false, false, false, false, false, false, false, false, false, false, false, false] rfl rfl (by kernel_rfl) (fun _ _ _ h => h) (Or.inl ⟨by rfl, ?_⟩) ?_ ?_
            rotate_left
            · intro w'
              go_simp
              with_reducible rfl
            rotate_left
            · simp only [Act.put, List.setIfInBounds_toArray, List.set_cons_zero, List.set_cons_succ, i64_w, i32_w]
              rfl
            refine one_ (i := 19) (N := some 108) #[true, true, true, true, true, true, true, true, true, true, true, true, true, true, true, true, true, true, true, true, false, false, false, false, false, false, false, false, false, false, false, false, false, false, false, false, false, false, false, false] rfl rfl (by kernel_rfl) (by decide) (fun K hK => ?_)
            refine goes_ Try.func11 (by kernel_rfl) rfl #[.slice A6 m c6, .slice AF m cF] (by rfl) rfl rfl (by simp only [List.map_toArray, List.map_cons, List.map_nil]; rfl) ?_
            with_reducible refine (sameInts_calls _ _ _ _ _ _ _ L L HLd.out HTd.out).mono ?_
            rintro e w7 ⟨rfl, hg⟩
            refine ⟨_, rfl, ?_⟩
            have HS7 := Aside0.mk (HSd.out.kept hg (by simp)); have HB7 := Aside0.mk (below_gb HBd.out hg HBd.out.size (by simp)); have HL7 := Aside0.mk (ri_kept HLd.out hg (by simp)); have HF7 := Aside0.mk (ri_kept HFd.out hg (by simp)); have HD7 := Aside0.mk (ri_kept HDd.out hg (by simp)); clear hg HSd HBd HLd HFd HDd
            clear HTd; rw [decide_eq_true (rfl : L = L)]
            refine hK.out _ _ trivial (fun hHeld => ?_)
            clear hK K
            refine norm_ (a' := ?_) ?_ ?_
            rotate_left
            · show Act.put _ (some 108) _ = _
              simp only [Act.put, List.setIfInBounds_toArray, List.set_cons_zero, List.set_cons_succ, i64_w, i32_w]
              rfl
            refine pure_ (i := 20) (N := some 109) (v := ?_) (a' := ?_) #[true, true, true, true, true, true, true, true, true, true, true, true, true, true, true, true, true, true, true, true, true, false, false, false, false, false, false, false, false, false, false, false, false, false, false, false, false, false, false, false] rfl rfl (by kernel_rfl) (fun _ _ _ h => h) (Or.inl ⟨by rfl, ?_⟩) ?_ ?_
            rotate_left
            · intro w'
              go_simp
              with_reducible rfl
            rotate_left
            · simp only [Act.put, List.setIfInBounds_toArray, List.set_cons_zero, List.set_cons_succ, i64_w, i32_w]
              rfl
            refine pure_ (i := 21) (N := some 110) (v := ?_) (a' := ?_) #[true, true, true, true, true, true, true, true, true, true, true, true, true, true, true, true, true, true, true, true, true, true, false, false, false, false, false, false, false, false, false, false, false, false, false, false, false, false, false, false] rfl rfl (by kernel_rfl) (fun _ _ _ h => h) (Or.inl ⟨by rfl, ?_⟩) ?_ ?_
            rotate_left
            · intro w'
              go_simp
              with_reducible rfl
            rotate_left
            · simp only [Act.put, List.setIfInBounds_toArray, List.set_cons_zero, List.set_cons_succ, i64_w, i32_w]
              rfl
            refine pure_ (i := 22) (N := some 111) (v := ?_) (a' := ?_) #[true, true, true, true, true, true, true, true, true, true, true, true, true, true, true, true, true, true, true, true, true, true, true, false, false, false, false, false, false, false, false, false, false, false, false, false, false, false, false, false] rfl rfl (by kernel_rfl) (fun _ _ _ h => h) (Or.inl ⟨by rfl, ?_⟩) ?_ ?_
            rotate_left
            · intro w'
              go_simp
              with_reducible rfl
            rotate_left
            · simp only [Act.put, List.setIfInBounds_toArray, List.set_cons_zero, List.set_cons_succ, i64_w, i32_w]
              rfl
            refine pure_ (i := 23) (N := some 112) (v := ?_) (a' := ?_) #[true, true, true, true, true, true, true, true, true, true, true, true, true, true, true, true, true, true, true, true, true, true, true, true, false, false, false, false, false, false, false, false, false, false, false, false, false, false, false, false] rfl rfl (by kernel_rfl) (fun _ _ _ h => h) (Or.inl ⟨by rfl, ?_⟩) ?_ ?_
            rotate_left
            · intro w'
              go_simp
              with_reducible rfl
            rotate_left
            · simp only [Act.put, List.setIfInBounds_toArray, List.set_cons_zero, List.set_cons_succ, i64_w, i32_w]
              rfl
            refine pure_ (i := 25) (N := some 114) (v := ?_) (a' := ?_) #[true, true, true, true, true, true, true, true, true, true, true, true, true, true, true, true, true, true, true, true, true, true, true, true, false, true, false, false, false, false, false, false, false, false, false, false, false, false, false, false] rfl rfl (by kernel_rfl) (fun _ _ _ h => h) (Or.inl ⟨by rfl, ?_⟩) ?_ ?_
            rotate_left
            · intro w'
              go_simp
              with_reducible rfl
            rotate_left
            · simp only [Act.put, List.setIfInBounds_toArray, List.set_cons_zero, List.set_cons_succ, i64_w, i32_w]
              rfl
            refine pure_ (i := 26) (N := some 115) (v := ?_) (a' := ?_) #[true, true, true, true, true, true, true, true, true, true, true, true, true, true, true, true, true, true, true, true, true, true, true, true, false, true, true, false, false, false, false, false, false, false, false, false, false, false, false, false] rfl rfl (by kernel_rfl) (fun _ _ _ h => h) (Or.inl ⟨by rfl, ?_⟩) ?_ ?_
            rotate_left
            · intro w'
              go_simp
              with_reducible rfl
            rotate_left
            · simp only [Act.put, List.setIfInBounds_toArray, List.set_cons_zero, List.set_cons_succ, i64_w, i32_w]
              rfl
            refine pure_ (i := 27) (N := some 116) (v := ?_) (a' := ?_) #[true, true, true, true, true, true, true, true, true, true, true, true, true, true, true, true, true, true, true, true, true, true, true, true, false, true, true, true, false, false, false, false, false, false, false, false, false, false, false, false] rfl rfl (by kernel_rfl) (fun _ _ _ h => h) (Or.inl ⟨by rfl, ?_⟩) ?_ ?_
            rotate_left
            · intro w'
              go_simp
              with_reducible rfl
            rotate_left
            · simp only [Act.put, List.setIfInBounds_toArray, List.set_cons_zero, List.set_cons_succ, i64_w, i32_w]
              rfl
            refine one_ (i := 24) (N := some 113) #[true, true, true, true, true, true, true, true, true, true, true, true, true, true, true, true, true, true, true, true, true, true, true, true, true, true, true, true, false, false, false, false, false, false, false, false, false, false, false, false] rfl rfl (by kernel_rfl) (by decide) (fun K hK => ?_)
            refine goes_ Try.func9 (by kernel_rfl) rfl #[.pointer (some ⟨g, 0, none⟩)] (by rfl) rfl rfl (by simp only [List.map_toArray, List.map_cons, List.map_nil]; rfl) ?_
            with_reducible refine (List_calls _ g n _ HS7.out).mono ?_
            rintro e w8 ⟨v, rfl, ho, hg⟩
            refine ⟨_, rfl, ?_⟩
            rw [TL.out.list] at ho
            obtain ⟨A8, c8, rfl, hr, -⟩ := own_open ho
            rw [lD.out] at hr
            rw [lD.out]
            have HR8 := Aside0.mk hr; clear hr ho
            have HS8 := Aside0.mk (HS7.out.kept hg (by simp)); have HB8 := Aside0.mk (below_gb HB7.out hg HB7.out.size (by simp)); have HL8 := Aside0.mk (ri_kept HL7.out hg (by simp)); have HF8 := Aside0.mk (ri_kept HF7.out hg (by simp)); have HD8 := Aside0.mk (ri_kept HD7.out hg (by simp)); clear hg HS7 HB7 HL7 HF7 HD7
            refine hK.out _ _ trivial (fun hHeld => ?_)
            clear hK K
            refine norm_ (a' := ?_) ?_ ?_
            rotate_left
            · show Act.put _ (some 113) _ = _
              simp only [Act.put, List.setIfInBounds_toArray, List.set_cons_zero, List.set_cons_succ, i64_w, i32_w]
              rfl
            refine one_ (i := 28) (N := some 117) #[true, true, true, true, true, true, true, true, true, true, true, true, true, true, true, true, true, true, true, true, true, true, true, true, true, true, true, true, true, false, false, false, false, false, false, false, false, false, false, false] rfl rfl (by kernel_rfl) (by decide) (fun K hK => ?_)
            refine goes_ Try.func11 (by kernel_rfl) rfl #[.slice A8 (F.length - m) c8, .slice AD (F.length - m) (cF - m)] (by rfl) rfl rfl (by simp only [List.map_toArray, List.map_cons, List.map_nil]; rfl) ?_
            with_reducible refine (sameInts_calls _ _ _ _ _ _ _ D D HR8.out HD8.out).mono ?_
            rintro e w9 ⟨rfl, hg⟩
            refine ⟨_, rfl, ?_⟩
            have HS9 := Aside0.mk (HS8.out.kept hg (by simp)); have HB9 := Aside0.mk (below_gb HB8.out hg HB8.out.size (by simp)); have HL9 := Aside0.mk (ri_kept HL8.out hg (by simp)); have HF9 := Aside0.mk (ri_kept HF8.out hg (by simp)); have HD9 := Aside0.mk (ri_kept HD8.out hg (by simp)); clear hg HS8 HB8 HL8 HF8 HD8
            clear HR8
            rw [decide_eq_true (rfl : D = D)]
            refine hK.out _ _ trivial (fun hHeld => ?_)
            clear hK K
            refine norm_ (a' := ?_) ?_ ?_
            rotate_left
            · show Act.put _ (some 117) _ = _
              simp only [Act.put, List.setIfInBounds_toArray, List.set_cons_zero, List.set_cons_succ, i64_w, i32_w]
              rfl
            refine pure_ (i := 29) (N := some 118) (v := ?_) (a' := ?_) #[true, true, true, true, true, true, true, true, true, true, true, true, true, true, true, true, true, true, true, true, true, true, true, true, true, true, true, true, true, true, false, false, false, false, false, false, false, false, false, false] rfl rfl (by kernel_rfl) (fun _ _ _ h => h) (Or.inl ⟨by rfl, ?_⟩) ?_ ?_
            rotate_left
            · intro w'
              go_simp
              with_reducible rfl
            rotate_left
            · simp only [Act.put, List.setIfInBounds_toArray, List.set_cons_zero, List.set_cons_succ, i64_w, i32_w]
              rfl
            refine pure_ (i := 30) (N := some 119) (v := ?_) (a' := ?_) #[true, true, true, true, true, true, true, true, true, true, true, true, true, true, true, true, true, true, true, true, true, true, true, true, true, true, true, true, true, true, true, false, false, false, false, false, false, false, false, false] rfl rfl (by kernel_rfl) (fun _ _ _ h => h) (Or.inl ⟨by rfl, ?_⟩) ?_ ?_
            rotate_left
            · intro w'
              go_simp
              with_reducible rfl
            rotate_left
            · simp only [Act.put, List.setIfInBounds_toArray, List.set_cons_zero, List.set_cons_succ, i64_w, i32_w]
              rfl
            refine pure_ (i := 31) (N := some 120) (v := ?_) (a' := ?_) #[true, true, true, true, true, true, true, true, true, true, true, true, true, true, true, true, true, true, true, true, true, true, true, true, true, true, true, true, true, true, true, true, false, false, false, false, false, false, false, false] rfl rfl (by kernel_rfl) (fun _ _ _ h => h) (Or.inl ⟨by rfl, ?_⟩) ?_ ?_
            rotate_left
            · intro w'
              go_simp
              with_reducible rfl
            rotate_left
            · simp only [Act.put, List.setIfInBounds_toArray, List.set_cons_zero, List.set_cons_succ, i64_w, i32_w]
              rfl
            refine pure_ (i := 32) (N := some 121) (v := ?_) (a' := ?_) #[true, true, true, true, true, true, true, true, true, true, true, true, true, true, true, true, true, true, true, true, true, true, true, true, true, true, true, true, true, true, true, true, true, false, false, false, false, false, false, false] rfl rfl (by kernel_rfl) (fun _ _ _ h => h) (Or.inl ⟨by rfl, ?_⟩) ?_ ?_
            rotate_left
            · intro w'
              go_simp
              with_reducible rfl
            rotate_left
            · simp only [Act.put, List.setIfInBounds_toArray, List.set_cons_zero, List.set_cons_succ, i64_w, i32_w]
              rfl
            refine pure_ (i := 34) (N := some 123) (v := ?_) (a' := ?_) #[true, true, true, true, true, true, true, true, true, true, true, true, true, true, true, true, true, true, true, true, true, true, true, true, true, true, true, true, true, true, true, true, true, false, true, false, false, false, false, false] rfl rfl (by kernel_rfl) (fun _ _ _ h => h) (Or.inl ⟨by rfl, ?_⟩) ?_ ?_
            rotate_left
            · intro w'
              go_simp
              with_reducible rfl
            rotate_left
            · simp only [Act.put, List.setIfInBounds_toArray, List.set_cons_zero, List.set_cons_succ, i64_w, i32_w]
              rfl
            refine pure_ (i := 35) (N := some 124) (v := ?_) (a' := ?_) #[true, true, true, true, true, true, true, true, true, true, true, true, true, true, true, true, true, true, true, true, true, true, true, true, true, true, true, true, true, true, true, true, true, false, true, true, false, false, false, false] rfl rfl (by kernel_rfl) (fun _ _ _ h => h) (Or.inl ⟨by rfl, ?_⟩) ?_ ?_
            rotate_left
            · intro w'
              go_simp
              with_reducible rfl
            rotate_left
            · simp only [Act.put, List.setIfInBounds_toArray, List.set_cons_zero, List.set_cons_succ, i64_w, i32_w]
              rfl
            refine pure_ (i := 36) (N := some 125) (v := ?_) (a' := ?_) #[true, true, true, true, true, true, true, true, true, true, true, true, true, true, true, true, true, true, true, true, true, true, true, true, true, true, true, true, true, true, true, true, true, false, true, true, true, false, false, false] rfl rfl (by kernel_rfl) (fun _ _ _ h => h) (Or.inl ⟨by rfl, ?_⟩) ?_ ?_
            rotate_left
            · intro w'
              go_simp
              with_reducible rfl
            rotate_left
            · simp only [Act.put, List.setIfInBounds_toArray, List.set_cons_zero, List.set_cons_succ, i64_w, i32_w]
              rfl
            refine pure_ (i := 37) (N := some 126) (v := ?_) (a' := ?_) #[true, true, true, true, true, true, true, true, true, true, true, true, true, true, true, true, true, true, true, true, true, true, true, true, true, true, true, true, true, true, true, true, true, false, true, true, true, true, false, false] rfl rfl (by kernel_rfl) (fun _ _ _ h => h) (Or.inl ⟨by rfl, ?_⟩) ?_ ?_
            rotate_left
            · intro w'
              go_simp
              with_reducible rfl
            rotate_left
            · simp only [Act.put, List.setIfInBounds_toArray, List.set_cons_zero, List.set_cons_succ, i64_w, i32_w]
              rfl
            refine one_ (i := 33) (N := some 122) #[true, true, true, true, true, true, true, true, true, true, true, true, true, true, true, true, true, true, true, true, true, true, true, true, true, true, true, true, true, true, true, true, true, true, true, true, true, true, false, false] rfl rfl (by kernel_rfl) (by decide) (fun K hK => ?_)
            refine goes_ Try.func12 (by kernel_rfl) rfl #[.pointer (some ⟨g, 0, none⟩)] (by rfl) rfl rfl (by simp only [List.map_toArray, List.map_cons, List.map_nil]; rfl) ?_
            with_reducible refine (Free_calls _ g n _ HS9.out).mono ?_
            rintro e w10 ⟨rfl, rfl⟩
            refine ⟨_, rfl, ?_⟩
            rw [TL.out.list, lD.out, lI.out]
            refine hK.out _ _ trivial (fun hHeld => ?_)
            clear hK K
            refine norm_ (a' := ?_) ?_ ?_
            rotate_left
            · show Act.put _ (some 122) _ = _
              simp only [Act.put, List.setIfInBounds_toArray, List.set_cons_zero, List.set_cons_succ, i64_w, i32_w]
              rfl
            refine pure_ (i := 38) (N := some 127) (v := ?_) (a' := ?_) #[true, true, true, true, true, true, true, true, true, true, true, true, true, true, true, true, true, true, true, true, true, true, true, true, true, true, true, true, true, true, true, true, true, true, true, true, true, true, true, false] rfl rfl (by kernel_rfl) (fun _ _ _ h => h) (Or.inl ⟨by rfl, ?_⟩) ?_ ?_
            rotate_left
            · intro w'
              go_simp
              with_reducible rfl
            rotate_left
            · simp only [Act.put, List.setIfInBounds_toArray, List.set_cons_zero, List.set_cons_succ, i64_w, i32_w]
              rfl
            refine pure_ (i := 39) (N := some 128) (v := ?_) (a' := ?_) #[true, true, true, true, true, true, true, true, true, true, true, true, true, true, true, true, true, true, true, true, true, true, true, true, true, true, true, true, true, true, true, true, true, true, true, true, true, true, true, true] rfl rfl (by kernel_rfl) (fun _ _ _ h => h) (Or.inl ⟨by rfl, ?_⟩) ?_ ?_
            rotate_left
            · intro w'
              go_simp
              with_reducible rfl
            rotate_left
            · simp only [Act.put, List.setIfInBounds_toArray, List.set_cons_zero, List.set_cons_succ, i64_w, i32_w]
              rfl
            refine done_ (by kernel_rfl) ?_
            rw [hwr]
            clear hwr
            go_wp2_with fail
            go_loopg [14] m (fun k v14 wr => ∃ j : Nat, v14 = .int .i64 j ∧ Aside0 (j + k = m) ∧ j ≤ m ∧ w9 = wr)
            case atStart => exact ⟨0, rfl, ⟨by omega⟩, by omega, rfl⟩
            case round =>
              obtain ⟨i, rfl, HD2, hi, rfl⟩ := hrel
              cases gk with
              | succ d =>
                have hlt : i < m := by have := HD2.out; omega
                have hb6 : decide (i < m) = true := decide_eq_true hlt
                obtain ⟨ad, rfl, hc⟩ := ri_at HL9.out i hlt
                have hmem : rd L (i : Int) ∈ L := by
                  have : i < L.length := by rw [lL.out]; exact hlt
                  simp [rd, this]
                have HH := Aside0.mk (TL.out.has _ hmem)
                clear hmem
                go_wp2_with fail
                refine (Has_calls _ g n _ _ HS9.out).mono ?_
                rintro e w11 ⟨rfl, rfl⟩
                rw [HH.out]
                go_wp2
                go_roundg d
                case measure => omega
                case rel => exact ⟨i + 1, by go_num, ⟨by have := HD2.out; omega⟩, by omega, rfl⟩
              | zero =>
                obtain rfl : m = i := by have := HD2.out; omega
                have hb6 : decide (m < m) = false := decide_eq_false (by omega)
                have hC := Claim_calls w9 g n (turnT t L) A6 c6 L HS9.out (by rw [lL.out]; exact HL9.out) HN6.out
                rw [lL.out, TL.out.claim, TL.out.claimD] at hC
                have HC := Aside0.mk hC
                clear hC HD2 hi
                go_wp2_with fail
                refine (HC.out).mono ?_
                rintro e w11 ⟨rfl, hs, hg⟩
                have hG := Give_calls w11 g n (turnT t L) A6 c6 L hs (by rw [lL.out]; exact ri_kept HL9.out hg HN6.out) HN6.out
                rw [lL.out, TL.out.give, TL.out.giveD] at hG
                have HG := Aside0.mk hG
                have HB11 := Aside0.mk (below_gb HB9.out hg HB9.out.size (by intro k hk; cases hk; exact hgw))
                have HL11 := Aside0.mk (ri_kept HL9.out hg HN6.out)
                have HF11 := Aside0.mk (ri_kept HF9.out hg HNA.out)
                have HD11 := Aside0.mk (ri_kept HD9.out hg HNd.out)
                clear hG hs hg HC HS9 HB9 HL9 HF9 HD9
                go_wp2_with fail
                refine (HG.out).mono ?_
                rintro e w12 ⟨rfl, hs, hg⟩
                have HS12 := Aside0.mk hs
                have HB12 := Aside0.mk (below_gb HB11.out hg HB11.out.size (by intro k hk; cases hk; exact hgw))
                have HL12 := Aside0.mk (ri_kept HL11.out hg HN6.out)
                have HF12 := Aside0.mk (ri_kept HF11.out hg HNA.out)
                have HD12 := Aside0.mk (ri_kept HD11.out hg HNd.out)
                clear hs hg HG HB11 HL11 HF11 HD11
                go_wp2_with fail
                refine (List_calls _ g n _ HS12.out).mono ?_
                rintro e w13 ⟨v, rfl, ho, hg⟩
                rw [TL.out.back] at ho
                obtain ⟨A13, c13, rfl, hr, -⟩ := own_open ho
                have HR13 := Aside0.mk hr
                have HS13 := Aside0.mk (HS12.out.kept hg (by simp)); have HB13 := Aside0.mk (below_gb HB12.out hg HB12.out.size (by simp)); have HL13 := Aside0.mk (ri_kept HL12.out hg (by simp)); have HF13 := Aside0.mk (ri_kept HF12.out hg (by simp)); have HD13 := Aside0.mk (ri_kept HD12.out hg (by simp)); clear hg HS12 HB12 HL12 HF12 HD12
                clear hr ho
                go_wp2_with fail
                refine (sameInts_calls _ _ _ _ _ _ _ F F HR13.out HF13.out).mono ?_
                rintro e w14 ⟨rfl, hg⟩
                have HS14 := Aside0.mk (HS13.out.kept hg (by simp)); have HB14 := Aside0.mk (below_gb HB13.out hg HB13.out.size (by simp)); have HL14 := Aside0.mk (ri_kept HL13.out hg (by simp)); have HF14 := Aside0.mk (ri_kept HF13.out hg (by simp)); have HD14 := Aside0.mk (ri_kept HD13.out hg (by simp)); clear hg HS13 HB13 HL13 HF13 HD13
                clear HR13
                rw [decide_eq_true (rfl : F = F)]
                have hG := Give_calls w14 g n _ A6 c6 L HS14.out (by rw [lL.out]; exact HL14.out) HN6.out
                rw [lL.out, TL.out.give2, TL.out.give2D] at hG
                have HG := Aside0.mk hG
                clear hG
                go_wp2_with fail
                refine (HG.out).mono ?_
                rintro e wa ⟨rfl, hs, hg⟩
                have hC := Claim_calls wa.drew g n _ A6 c6 L (hs.kept (gb_drew wa none) (by simp)) (by rw [lL.out]; exact ri_kept (ri_kept HL14.out hg HN6.out) (gb_drew wa none) (by simp)) HN6.out
                rw [lL.out, TL.out.claim2, TL.out.claim2D] at hC
                have HCe := Aside0.mk hC
                have HBe := Aside0.mk (below_gb (below_gb HB14.out hg HB14.out.size (by intro k hk; cases hk; exact hgw)) (gb_drew wa none) (below_gb HB14.out hg HB14.out.size (by intro k hk; cases hk; exact hgw)).size (by simp))
                have HDe := Aside0.mk (ri_kept (ri_kept HD14.out hg HNd.out) (gb_drew wa none) (by simp))
                clear hs hg hC HG HB14 HL14 HF14 HD14 HS14
                go_wp2_with fail
                refine start_ (n := 13) (S := fun w' => True) (ds := []) #[false, false, false, false, false, false, false, false, false, false, false, false, false] (by kernel_rfl) rfl rfl trivial (fun hHeld => ?_)
                refine pure_ (i := 0) (N := some 164) (v := ?_) (a' := ?_) #[true, false, false, false, false, false, false, false, false, false, false, false, false] rfl rfl (by kernel_rfl) (fun _ _ _ h => h) (Or.inl ⟨by rfl, ?_⟩) ?_ ?_
                rotate_left
                · intro w'
                  go_simp
                  with_reducible rfl
                rotate_left
                · simp only [Act.put, List.setIfInBounds_toArray, List.set_cons_zero, List.set_cons_succ, i64_w, i32_w]
                  rfl
                refine pure_ (i := 1) (N := some 165) (v := ?_) (a' := ?_) #[true, true, false, false, false, false, false, false, false, false, false, false, false] rfl rfl (by kernel_rfl) (fun _ _ _ h => h) (Or.inl ⟨by rfl, ?_⟩) ?_ ?_
                rotate_left
                · intro w'
                  go_simp
                  with_reducible rfl
                rotate_left
                · simp only [Act.put, List.setIfInBounds_toArray, List.set_cons_zero, List.set_cons_succ, i64_w, i32_w]
                  rfl
                refine one_ (i := 2) (N := some 166) #[true, true, true, false, false, false, false, false, false, false, false, false, false] rfl rfl (by kernel_rfl) (by decide) (fun K hK => ?_)
                refine goes_ Try.func8 (by kernel_rfl) rfl #[.pointer (some ⟨g, 0, none⟩), .slice A6 m c6] (by rfl) rfl rfl (by simp only [List.map_toArray, List.map_cons, List.map_nil]; rfl) ?_
                with_reducible refine (HCe.out).mono ?_
                rintro e w15 ⟨rfl, hs, hg⟩
                refine ⟨_, rfl, ?_⟩
                have HS15 := Aside0.mk hs; have HB15 := Aside0.mk (below_gb HBe.out hg HBe.out.size (by intro k hk; cases hk; exact hgw)); have HDf := Aside0.mk (ri_kept HDe.out hg HNd.out); clear hs hg HBe HDe HCe
                refine hK.out _ _ trivial (fun hHeld => ?_)
                clear hK K
                refine norm_ (a' := ?_) ?_ ?_
                rotate_left
                · show Act.put _ (some 166) _ = _
                  simp only [Act.put, List.setIfInBounds_toArray, List.set_cons_zero, List.set_cons_succ, i64_w, i32_w]
                  rfl
                refine pure_ (i := 3) (N := some 167) (v := ?_) (a' := ?_) #[true, true, true, true, false, false, false, false, false, false, false, false, false] rfl rfl (by kernel_rfl) (fun _ _ _ h => h) (Or.inl ⟨by rfl, ?_⟩) ?_ ?_
                rotate_left
                · intro w'
                  go_simp
                  with_reducible rfl
                rotate_left
                · simp only [Act.put, List.setIfInBounds_toArray, List.set_cons_zero, List.set_cons_succ, i64_w, i32_w]
                  rfl
                refine pure_ (i := 4) (N := some 168) (v := ?_) (a' := ?_) #[true, true, true, true, true, false, false, false, false, false, false, false, false] rfl rfl (by kernel_rfl) (fun _ _ _ h => h) (Or.inl ⟨by rfl, ?_⟩) ?_ ?_
                rotate_left
                · intro w'
                  go_simp
                  with_reducible rfl
                rotate_left
                · simp only [Act.put, List.setIfInBounds_toArray, List.set_cons_zero, List.set_cons_succ, i64_w, i32_w]
                  rfl
                refine pure_ (i := 5) (N := some 169) (v := ?_) (a' := ?_) #[true, true, true, true, true, true, false, false, false, false, false, false, false] rfl rfl (by kernel_rfl) (fun _ _ _ h => h) (Or.inl ⟨by rfl, ?_⟩) ?_ ?_
                rotate_left
                · intro w'
                  go_simp
                  with_reducible rfl
                rotate_left
                · simp only [Act.put, List.setIfInBounds_toArray, List.set_cons_zero, List.set_cons_succ, i64_w, i32_w]
                  rfl
                refine pure_ (i := 7) (N := some 171) (v := ?_) (a' := ?_) #[true, true, true, true, true, true, false, true, false, false, false, false, false] rfl rfl (by kernel_rfl) (fun _ _ _ h => h) (Or.inl ⟨by rfl, ?_⟩) ?_ ?_
                rotate_left
                · intro w'
                  go_simp
                  with_reducible rfl
                rotate_left
                · simp only [Act.put, List.setIfInBounds_toArray, List.set_cons_zero, List.set_cons_succ, i64_w, i32_w]
                  rfl
                refine pure_ (i := 8) (N := some 172) (v := ?_) (a' := ?_) #[true, true, true, true, true, true, false, true, true, false, false, false, false] rfl rfl (by kernel_rfl) (fun _ _ _ h => h) (Or.inl ⟨by rfl, ?_⟩) ?_ ?_
                rotate_left
                · intro w'
                  go_simp
                  with_reducible rfl
                rotate_left
                · simp only [Act.put, List.setIfInBounds_toArray, List.set_cons_zero, List.set_cons_succ, i64_w, i32_w]
                  rfl
                refine pure_ (i := 9) (N := some 173) (v := ?_) (a' := ?_) #[true, true, true, true, true, true, false, true, true, true, false, false, false] rfl rfl (by kernel_rfl) (fun _ _ _ h => h) (Or.inl ⟨by rfl, ?_⟩) ?_ ?_
                rotate_left
                · intro w'
                  go_simp
                  with_reducible rfl
                rotate_left
                · simp only [Act.put, List.setIfInBounds_toArray, List.set_cons_zero, List.set_cons_succ, i64_w, i32_w]
                  rfl
                refine one_ (i := 6) (N := some 170) #[true, true, true, true, true, true, true, true, true, true, false, false, false] rfl rfl (by kernel_rfl) (by decide) (fun K hK => ?_)
                refine goes_ Try.func9 (by kernel_rfl) rfl #[.pointer (some ⟨g, 0, none⟩)] (by rfl) rfl rfl (by simp only [List.map_toArray, List.map_cons, List.map_nil]; rfl) ?_
                with_reducible refine (List_calls _ g n _ HS15.out).mono ?_
                rintro e w16 ⟨v, rfl, ho, hg⟩
                refine ⟨_, rfl, ?_⟩
                rw [TL.out.list2] at ho
                obtain ⟨A16, c16, rfl, hr, -⟩ := own_open ho
                rw [lD.out] at hr
                rw [lD.out]
                have HR16 := Aside0.mk hr; have HB16 := Aside0.mk (below_gb HB15.out hg HB15.out.size (by simp)); have HD16 := Aside0.mk (ri_kept HDf.out hg (by simp)); clear hr ho hg HS15 HB15 HDf
                refine hK.out _ _ trivial (fun hHeld => ?_)
                clear hK K
                refine norm_ (a' := ?_) ?_ ?_
                rotate_left
                · show Act.put _ (some 170) _ = _
                  simp only [Act.put, List.setIfInBounds_toArray, List.set_cons_zero, List.set_cons_succ, i64_w, i32_w]
                  rfl
                refine one_ (i := 10) (N := some 174) #[true, true, true, true, true, true, true, true, true, true, true, false, false] rfl rfl (by kernel_rfl) (by decide) (fun K hK => ?_)
                refine goes_ Try.func11 (by kernel_rfl) rfl #[.slice A16 (F.length - m) c16, .slice AD (F.length - m) (cF - m)] (by rfl) rfl rfl (by simp only [List.map_toArray, List.map_cons, List.map_nil]; rfl) ?_
                with_reducible refine (sameInts_calls _ _ _ _ _ _ _ D D HR16.out HD16.out).mono ?_
                rintro e w17 ⟨rfl, hg⟩
                refine ⟨_, rfl, ?_⟩
                have HB17 := Aside0.mk (below_gb HB16.out hg HB16.out.size (by simp)); clear hg HB16 HR16 HD16
                rw [decide_eq_true (rfl : D = D)]
                refine hK.out _ _ trivial (fun hHeld => ?_)
                clear hK K
                refine norm_ (a' := ?_) ?_ ?_
                rotate_left
                · show Act.put _ (some 174) _ = _
                  simp only [Act.put, List.setIfInBounds_toArray, List.set_cons_zero, List.set_cons_succ, i64_w, i32_w]
                  rfl
                refine pure_ (i := 11) (N := some 175) (v := ?_) (a' := ?_) #[true, true, true, true, true, true, true, true, true, true, true, true, false] rfl rfl (by kernel_rfl) (fun _ _ _ h => h) (Or.inl ⟨by rfl, ?_⟩) ?_ ?_
                rotate_left
                · intro w'
                  go_simp
                  with_reducible rfl
                rotate_left
                · simp only [Act.put, List.setIfInBounds_toArray, List.set_cons_zero, List.set_cons_succ, i64_w, i32_w]
                  rfl
                refine pure_ (i := 12) (N := some 6) (v := ?_) (a' := ?_) #[true, true, true, true, true, true, true, true, true, true, true, true, true] rfl rfl (by kernel_rfl) (fun _ _ _ h => h) (Or.inl ⟨by rfl, ?_⟩) ?_ ?_
                rotate_left
                · intro w'
                  go_simp
                  with_reducible rfl
                rotate_left
                · simp only [Act.put, List.setIfInBounds_toArray, List.set_cons_zero, List.set_cons_succ, i64_w, i32_w]
                  rfl
                refine done_ (by kernel_rfl) ?_
                go_wp2
                go_ret
                exact ⟨rfl, HB17.out⟩
theorem Lowest_calls (w : World) (n : Int) (w0 : (Lit.int .i64 n).wf = true) (A : Option Addr) (c : Nat) (xs : List Int) (hr : ReadsInt w .i64 A xs.length xs) (hc : xs.length ≤ c) (hb : xs.length * 8 ≤ 140737488351232) (hw : ∀ x ∈ xs, (Lit.int .i64 x).wf = true) (many : Int) (w2 : (Lit.int .i64 many).wf = true) :
    Calls Try.prog 3 #[.int .i64 n, .slice A xs.length c, .int .i64 many] w fun e w' => e = .returned (.bool true) ∧ Below w.heap.size w w' := by
  by_cases h : n < 1 ∨ 256 < n
  · exact Lowest_bad w n A c xs many h
  · obtain ⟨k, rfl⟩ : ∃ k : Nat, n = (k : Int) := Int.eq_ofNat_of_zero_le (by omega)
    exact Lowest_good w k A c xs many (by omega) (by omega) hr
end Go.Proofs.Ytohopfbacfddbaa.N
