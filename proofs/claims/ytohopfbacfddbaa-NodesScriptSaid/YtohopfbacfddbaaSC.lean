/- The document's set of nodes, taken from and cloned: what each call answers and leaves. Conditions: each theorem's own. -/
import Derived.Test.YtohopfbacfddbaaSB
namespace Go.Proofs.Ytohopfbacfddbaa.S
open Go.RowKit Go.Proofs.YtohopfbacfddbaaW.PrintWords Go.Proofs.YtohopfbacfddbaaW.PrintLast Go.Proofs.Ytohopfbacfddbaa.H
open Go.Proofs.Ytohopfbacfddbaa.N hiding gb_setCell gb_drewN gb_drew gb_refl gb_any gb_of_below below_of_gb below_gb own_open ne_of_ge cut_at
set_option linter.unusedVariables false
set_option linter.unusedSimpArgs false
theorem turn_step (t : Nat → Nat) {xs : List Int} {j : Nat} (h : j < xs.length) : turnT t (xs.take (j + 1)) = flip (turnT t (xs.take j)) (rd xs (j : Int)).toNat := by
  have e : xs.take (j + 1) = xs.take j ++ [rd xs (j : Int)] := by
    rw [List.take_add_one]
    simp [rd, List.getD_eq_getElem?_getD, List.getElem?_eq_getElem h]
  unfold turnT
  rw [e, List.foldl_append]; rfl
theorem rd_mem {xs : List Int} {j : Nat} (h : j < xs.length) : rd xs (j : Int) ∈ xs := by
  have : rd xs (j : Int) = xs[j] := by simp [rd, List.getD_eq_getElem?_getD, List.getElem?_eq_getElem h]
  rw [this]; exact List.getElem_mem h
theorem rd_not_take {xs : List Int} (hn : xs.Nodup) {j : Nat} (h : j < xs.length) : rd xs (j : Int) ∉ xs.take j := by
  have e : rd xs (j : Int) = xs[j] := by simp [rd, List.getD_eq_getElem?_getD, List.getElem?_eq_getElem h]
  rw [e]
  intro hm
  obtain ⟨k, hk, hx⟩ := List.getElem_of_mem hm
  rw [List.getElem_take] at hx
  rw [List.length_take] at hk
  have hp := List.pairwise_iff_getElem.1 hn k j (by omega) h (by omega)
  exact hp hx
theorem bit_then {xs : List Int} (t : Nat → Nat) (hn : xs.Nodup) (hp : ∀ x ∈ xs, 0 ≤ x) {j : Nat} (h : j < xs.length) : bitT (turnT t (xs.take j)) (rd xs (j : Int)).toNat = bitT t (rd xs (j : Int)).toNat := by
  have h0 := hp _ (rd_mem h)
  rw [bit_turn (xs.take j) t _ (hn.sublist (List.take_sublist _ _)) (fun x hx => hp x (List.mem_of_mem_take hx)), Int.toNat_of_nonneg h0]
  rw [decide_eq_false (rd_not_take hn h)]
  simp
/-- So many are taken, the lowest ones: what is answered reads as these. -/
def rTaken (w : World) (B g ab n c : Nat) (t : Nat → Nat) (xs : List Int) (e : Ending) (w' : World) : Prop :=
  ∃ (A : Option Addr) (d : Nat), e = .returned (.tuple #[.slice A xs.length d, .int .i64 0]) ∧ ReadsInt w' .i64 A xs.length xs ∧ (∀ ad, A = some ad → w.heap.size ≤ ad.block) ∧ RefAt w' B g ab n c (turnT t xs) ∧ Tn w w' (fun k => k = ab)
set_option maxHeartbeats 8000000 in
set_option maxRecDepth 100000 in
theorem rTake_ok (w : World) (B g ab n c : Nat) (t : Nat → Nat) (m : Nat) (h : RefAt w B g ab n c t) (hm : m ≤ (freeTo n t n).length) (h0 : 1 ≤ m) :
    Calls Try.prog 23 #[.pointer (some ⟨g, 0, none⟩), .int .i64 m] w (rTaken w B g ab n c t ((freeTo n t n).take m)) := by
  have h1 : decide ((m : Int) < 1) = false := decide_eq_false (by omega)
  have h2 : decide (((freeTo n t n).length : Int) < (m : Int)) = false := decide_eq_false (by omega)
  have hl := freeTo_len n t n
  have hle := h.le
  have hr := freeTo_rising n t n (Nat.le_refl _)
  have HF := Aside0.mk hr
  have HND := Aside0.mk (pw_nodup hr.1)
  have HL := Aside0.mk h
  clear h hr
  obtain ⟨F, hF⟩ : ∃ F, F = freeTo n t n := ⟨_, rfl⟩
  rw [← hF] at hm h2 hl HF HND ⊢
  go_enter Try.func23, Try.ntmps23
  go_wp2_with fail
  refine (rList_calls _ _ _ _ _ _ _ HL.out).mono ?_
  rintro e w1 ⟨v, rfl, ho, hg⟩
  rw [← hF, ← flat_nums] at ho
  clear hF
  obtain ⟨A8, c8, rfl, -, hc8, ha⟩ := own_open (E := Ei .i64) rfl ho
  obtain ⟨lb, rfl⟩ := own_some (E := Ei .i64) rfl ho (by omega)
  have hlb : w.heap.size ≤ lb := ha _ rfl
  have hmc : m ≤ c8 := by omega
  have habl := HL.out.abl
  have HL0 := Aside0.mk (HL.out.gb hg)
  have HO0 := Aside0.mk (show w1.ownsRow w.heap.size 3 (Ei .i64).sz (.slice (some ⟨lb, 0, none⟩) F.length c8) F.length (flat (Ei .i64) F) from ho)
  have HT0 := Aside0.mk (Tn.gb0 hg (fun k => k = ab))
  clear ho hg ha
  go_wp2_with fail
  go_loopg [7] m (fun k v7 wr => ∃ j : Nat, v7 = .int .i64 j ∧ Aside0 (j + k = m) ∧ j ≤ m ∧ Aside0 (RefAt wr B g ab n c (turnT t (F.take j))) ∧ Aside0 (wr.ownsRow w.heap.size 3 (Ei .i64).sz (.slice (some ⟨lb, 0, none⟩) F.length c8) F.length (flat (Ei .i64) F)) ∧ Aside0 (Tn w wr (fun k => k = ab)))
  case atStart => exact ⟨0, rfl, ⟨by omega⟩, by omega, HL0, HO0, HT0⟩
  case round =>
    obtain ⟨j, rfl, HD, hj, HL1, HO1, HT1⟩ := hrel
    cases gk with
    | zero =>
      obtain rfl : j = m := by have := HD.out; omega
      have hb3 : decide (j < j) = false := decide_eq_false (by omega)
      have hmF : (j : Int) ≤ F.length := by omega
      go_wp2
      go_ret2
      have hlt : (F.take j).length = j := by rw [List.length_take]; omega
      refine ⟨some ⟨lb, 0, none⟩, j, by rw [hlt]; rfl, ?_, fun ad ha => by cases ha; exact hlb, HL1.out, HT1.out⟩
      rw [hlt]
      exact ints_rd ((own_rd (E := Ei .i64) rfl HO1.out).take_ j hm)
    | succ d =>
      have hlt : j < m := by have := HD.out; omega
      have hltF : j < F.length := by omega
      have hlt1 : decide ((j : Int) < m) = true := decide_eq_true (by omega)
      have hjF : (j : Int) < (F.length : Int) := by omega
      obtain ⟨hx0, hx1, hx2⟩ := HF.out.2 _ (rd_mem hltF)
      obtain ⟨q, hq⟩ : ∃ q : Nat, rd F (j : Int) = q := ⟨(rd F (j : Int)).toNat, by omega⟩
      have HP := Aside0.mk (show bitT (turnT t (F.take j)) q = false by
        have := bit_then t HND.out (fun x hx => (HF.out.2 x hx).1) hltF
        rw [hq, Int.toNat_natCast] at this
        rw [this, ← hx2, hq, Int.toNat_natCast])
      have HE := Aside0.mk (show turnT t (F.take (j + 1)) = flip (turnT t (F.take j)) q by rw [turn_step t hltF, hq, Int.toNat_natCast])
      have hq1 : (q : Int) < (n : Int) := by omega
      have hqn : q < n := by omega
      have HLd := Aside0.mk (HL1.out.gb (gb_drew wr none))
      have hoj := own_cell (own_kept HO1.out (gb_drew wr none) (by simp)) j 0 (rd F (j : Int)) (by simp [rd, List.getD_eq_getElem?_getD, List.getElem?_eq_getElem hltF]) (by decide) _ rfl
      have HQd := Aside0.mk (show wr.drew.cell? ⟨lb, j, none⟩ = some (.int .i64 (q : Nat)) by rw [hq] at hoj; simpa [Ei] using hoj)
      have hf3 := own_frozen HLd.out.own q
      have hcq := HL1.out.cell q hqn
      clear hoj hx0 hx1 hx2 hq
      go_wp2_with fail
      refine start_ (n := 10) (S := fun w' => w'.cell? ⟨g, 0, none⟩ = some (.slice (some ⟨ab, 0, none⟩) n c) ∧ w'.cell? ⟨lb, j, none⟩ = some (.int .i64 (q : Nat))) (ds := [9]) #[false, false, false, false, false, false, false, false, false, false] (by kernel_rfl) rfl rfl ⟨HLd.out.c0, HQd.out⟩ (fun hHeld => ?_)
      refine pure_ (i := 0) (N := some 21) (v := ?_) (a' := ?_) #[true, false, false, false, false, false, false, false, false, false] rfl rfl (by kernel_rfl) (fun _ _ _ h => h) (Or.inl ⟨by rfl, ?_⟩) ?_ ?_
      rotate_left
      · intro w'
        go_simp
        with_reducible rfl
      rotate_left
      · simp only [Act.put, List.setIfInBounds_toArray, List.set_cons_zero, List.set_cons_succ, i64_w, i32_w]
        rfl
      refine pure_ (i := 1) (N := some 22) (v := ?_) (a' := ?_) #[true, true, false, false, false, false, false, false, false, false] rfl rfl (by kernel_rfl) (fun _ _ _ h => h) (Or.inl ⟨by rfl, ?_⟩) ?_ ?_
      rotate_left
      · intro w'
        go_simp
        with_reducible rfl
      rotate_left
      · simp only [Act.put, List.setIfInBounds_toArray, List.set_cons_zero, List.set_cons_succ, i64_w, i32_w]
        rfl
      refine pure_ (i := 2) (N := some 23) (v := ?_) (a' := ?_) #[true, true, true, false, false, false, false, false, false, false] rfl rfl (by kernel_rfl) (fun _ _ _ h => h) (Or.inl ⟨by rfl, ?_⟩) ?_ ?_
      rotate_left
      · intro w'
        go_simp
        with_reducible rfl
      rotate_left
      · simp only [Act.put, List.setIfInBounds_toArray, List.set_cons_zero, List.set_cons_succ, i64_w, i32_w]
        rfl
      refine pure_ (i := 4) (N := some 25) (v := ?_) (a' := ?_) #[true, true, true, false, true, false, false, false, false, false] rfl rfl (by kernel_rfl) (fun _ _ _ h => h) (Or.inl ⟨by rfl, ?_⟩) ?_ ?_
      rotate_left
      · intro w'
        go_simp
        with_reducible rfl
      rotate_left
      · simp only [Act.put, List.setIfInBounds_toArray, List.set_cons_zero, List.set_cons_succ, i64_w, i32_w]
        rfl
      refine pure_ (i := 5) (N := some 26) (v := ?_) (a' := ?_) #[true, true, true, false, true, true, false, false, false, false] rfl rfl (by kernel_rfl) (fun _ _ _ h => h) (Or.inl ⟨by rfl, ?_⟩) ?_ ?_
      rotate_left
      · intro w'
        go_simp
        with_reducible rfl
      rotate_left
      · simp only [Act.put, List.setIfInBounds_toArray, List.set_cons_zero, List.set_cons_succ, i64_w, i32_w]
        rfl
      refine pure_ (i := 6) (N := some 27) (v := ?_) (a' := ?_) #[true, true, true, false, true, true, true, false, false, false] rfl rfl (by kernel_rfl) (fun _ _ _ h => h) (Or.inl ⟨by rfl, ?_⟩) ?_ ?_
      rotate_left
      · intro w'
        go_simp
        with_reducible rfl
      rotate_left
      · simp only [Act.put, List.setIfInBounds_toArray, List.set_cons_zero, List.set_cons_succ, i64_w, i32_w]
        rfl
      refine take_ (i := 3) (N := some 24) (v := ?_) (a' := ?_) #[true, true, true, true, true, true, true, false, false, false] rfl rfl (by kernel_rfl) (fun _ _ _ h => h) (Or.inl ⟨by rfl, ?_⟩) hHeld ?_ ?_
      rotate_left
      · rintro w' ⟨s0, s1⟩
        go_simp
        with_reducible rfl
      rotate_left
      · simp only [Act.put, List.setIfInBounds_toArray, List.set_cons_zero, List.set_cons_succ, i64_w, i32_w]
        rfl
      refine take_ (i := 7) (N := some 28) (v := ?_) (a' := ?_) #[true, true, true, true, true, true, true, true, false, false] rfl rfl (by kernel_rfl) (fun _ _ _ h => h) (Or.inl ⟨by rfl, ?_⟩) hHeld ?_ ?_
      rotate_left
      · rintro w' ⟨s0, s1⟩
        go_simp
        with_reducible rfl
      rotate_left
      · simp only [Act.put, List.setIfInBounds_toArray, List.set_cons_zero, List.set_cons_succ, i64_w, i32_w]
        rfl
      refine pure_ (i := 8) (N := some 29) (v := ?_) (a' := ?_) #[true, true, true, true, true, true, true, true, true, false] rfl rfl (by kernel_rfl) (fun _ _ _ h => h) (Or.inl ⟨by rfl, ?_⟩) ?_ ?_
      rotate_left
      · intro w'
        go_simp
        with_reducible rfl
      rotate_left
      · simp only [Act.put, List.setIfInBounds_toArray, List.set_cons_zero, List.set_cons_succ, i64_w, i32_w]
        rfl
      refine last_ (i := 9) (N := none) #[true, true, true, true, true, true, true, true, true, true] rfl rfl (by kernel_rfl) (by decide) (fun K hK => ?_)
      refine skip_ (w1 := ?_) (by rfl) rfl ?_ ?_
      rotate_left
      · go_simp
        rfl
      refine hK.out _ _ ?_
      clear hK K
      refine done_ (by kernel_rfl) ?_
      go_wp2_with fail
      go_roundg d
      case measure => omega
      case rel =>
        refine ⟨j + 1, by go_num, ⟨by have := HD.out; omega⟩, by omega, ⟨?_⟩, ⟨?_⟩, ⟨?_⟩⟩
        · rw [HE.out]
          exact HLd.out.put q hqn true (by rw [HP.out]; rfl)
        · exact own_tn (own_kept HO1.out (gb_drew wr none) (by simp)) (Tn.set ab q _ (F := fun k => k = ab) rfl) (fun k hk he => by simp [Value.ownBlock] at hk; omega)
        · exact (HT1.out.trans' (Tn.drew wr _)).trans' (Tn.set ab q _ rfl)
end Go.Proofs.Ytohopfbacfddbaa.S
