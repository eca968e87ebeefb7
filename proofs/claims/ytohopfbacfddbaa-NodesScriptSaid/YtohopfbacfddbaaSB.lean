/- The document's set of nodes, asked and taken from: what each call answers and leaves. Conditions: each theorem's own. -/
import Derived.Test.YtohopfbacfddbaaSA
namespace Go.Proofs.Ytohopfbacfddbaa.S
open Go.RowKit Go.Proofs.YtohopfbacfddbaaW.PrintWords Go.Proofs.Ytohopfbacfddbaa.H
open Go.Proofs.Ytohopfbacfddbaa.N hiding gb_setCell gb_drewN gb_drew gb_refl gb_any gb_of_below below_of_gb below_gb own_open ne_of_ge cut_at
set_option linter.unusedVariables false
set_option linter.unusedSimpArgs false
theorem has_bit {n : Nat} {t : Nat → Nat} {j : Nat} (h : j < n) : hasB n t (j : Int) = !bitT t j := by
  have := hasB_nat (n := n) (t := t) (x := (j : Int)) (by omega) (by omega)
  simpa using this
set_option maxHeartbeats 8000000 in
set_option maxRecDepth 100000 in
theorem rList_calls (w : World) (B g ab n c : Nat) (t : Nat → Nat) (h : RefAt w B g ab n c t) :
    Calls Try.prog 19 #[.pointer (some ⟨g, 0, none⟩)] w (OwnList w (freeTo n t n)) := by
  have hle := h.le
  have HL := Aside0.mk h
  clear h
  go_enter Try.func19, Try.ntmps19
  go_wp2_with fail
  go_loopg [3, 4] n (fun k v3 v4 wr => ∃ j : Nat, v4 = .int .i64 j ∧ Aside0 (j + k = n) ∧ j ≤ n ∧ Aside0 (wr.ownsRow w.heap.size 3 1 v3 (freeTo n t j).length (nums .i64 (freeTo n t j))) ∧ Aside0 (Below w.heap.size w wr))
  case atStart => exact ⟨0, rfl, ⟨by omega⟩, by omega, ⟨by exact own_lit w w.heap.size 3 .i64 [] (Nat.le_refl _) (by simp)⟩, ⟨Below.alloc (Below.refl _ _) (Nat.le_refl _) _⟩⟩
  case round =>
    obtain ⟨j, rfl, HD, hj, HO, HB⟩ := hrel
    have hl := freeTo_len n t j
    have HL1 := Aside0.mk (HL.out.gb (gb_of_below HB.out none))
    have hc0 := HL1.out.c0
    cases gk with
    | zero =>
      obtain rfl : j = n := by have := HD.out; omega
      go_wp2
      go_ret
      exact ⟨_, rfl, HO.out, gb_of_below HB.out _⟩
    | succ d =>
      have hlt : j < n := by have := HD.out; omega
      have hlt1 : decide ((j : Int) < n) = true := decide_eq_true (by omega)
      have hcj := HL1.out.cell j hlt
      have hf := freeTo_succ n t j
      rw [has_bit hlt] at hf
      by_cases hq : bitT t j = true
      · rw [hq] at hcj hf
        have HF := Aside0.mk hf
        clear hf hq
        go_wp2_with fail
        go_roundg d
        case measure => omega
        case rel => exact ⟨j + 1, by go_num, ⟨by have := HD.out; omega⟩, by omega, ⟨by rw [HF.out]; exact HO.out⟩, HB⟩
      · have hq1 : bitT t j = false := by simpa using hq
        rw [hq1] at hcj hf
        have HF := Aside0.mk hf
        clear hf hq hq1
        go_wp2_with (at_builtin; refine print_append_num (w0 := w) w.heap.size rfl (.tmp 23) (.tmp 25) 22 3 .i64 8 rfl Try.underlying22 (by kernel_rfl) (by decide) _ (freeTo n t j) (j : Int) rfl rfl HO.out HB.out HB.out.size (by omega) ?_; intro v1 w1 ho hb hg hat; have HO1 := Aside0.mk ho; have HB1 := Aside0.mk hb; clear ho hb hg hat)
        go_roundg d
        case measure => omega
        case rel => exact ⟨j + 1, by go_num, ⟨by have := HD.out; omega⟩, by omega, ⟨by rw [HF.out]; exact HO1.out⟩, HB1⟩
set_option maxHeartbeats 8000000 in
set_option maxRecDepth 100000 in
theorem rFree_calls (w : World) (B g ab n c : Nat) (t : Nat → Nat) (h : RefAt w B g ab n c t) :
    Calls Try.prog 30 #[.pointer (some ⟨g, 0, none⟩)] w fun e w' => e = .returned (.int .i64 ((freeTo n t n).length : Nat)) ∧ w.grownBy w' none := by
  have HL := Aside0.mk h
  clear h
  go_enter Try.func30, Try.ntmps30
  go_wp2_with (go_at_call 19; refine (rList_calls _ _ _ _ _ _ _ HL.out).mono ?_; rintro e w1 ⟨v, rfl, ho, hg⟩; obtain ⟨A, c, rfl, hr⟩ := own_reads ho; have HG := Aside0.mk hg; clear ho hg hr)
  go_ret
  exact ⟨rfl, HG.out⟩
set_option maxHeartbeats 8000000 in
set_option maxRecDepth 100000 in
theorem rHas_calls (w : World) (B g ab n c : Nat) (t : Nat → Nat) (i : Int) (h : RefAt w B g ab n c t) :
    Calls Try.prog 29 #[.pointer (some ⟨g, 0, none⟩), .int .i64 i] w fun e w' => e = .returned (.bool (hasB n t i)) ∧ w = w' := by
  have hc0 := h.c0
  by_cases h0 : 0 ≤ i
  · obtain ⟨k, rfl⟩ : ∃ k : Nat, i = k := ⟨i.toNat, by omega⟩
    have hb0 : decide (0 ≤ (k : Int)) = true := decide_eq_true h0
    by_cases h1 : k < n
    · have hcj := h.cell k h1
      have hb1 : decide ((k : Int) < (n : Int)) = true := decide_eq_true (by omega)
      have hb2 : decide (k < n) = true := decide_eq_true h1
      have HE := Aside0.mk (has_bit (t := t) h1)
      have hk1 : (k : Int) < (n : Int) := by omega
      clear h
      go_enter Try.func29, Try.ntmps29
      go_wp2
      go_ret
      exact ⟨by rw [HE.out]; rfl, rfl⟩
    · have hb1 : decide ((k : Int) < (n : Int)) = false := decide_eq_false (by omega)
      have hb2 : decide (k < n) = false := decide_eq_false h1
      have HE := Aside0.mk (show hasB n t (k : Int) = false by unfold hasB; rw [hb1]; simp)
      clear h
      go_enter Try.func29, Try.ntmps29
      go_wp2
      go_ret
      exact ⟨by rw [HE.out]; rfl, rfl⟩
  · have hb0 : decide (0 ≤ i) = false := decide_eq_false h0
    have HE := Aside0.mk (show hasB n t i = false by unfold hasB; rw [hb0]; rfl)
    clear h h0
    go_enter Try.func29, Try.ntmps29
    go_wp2
    go_ret
    exact ⟨by rw [HE.out]; rfl, rfl⟩
set_option maxHeartbeats 8000000 in
set_option maxRecDepth 100000 in
theorem rTake_small (w : World) (g : Nat) (many : Int) (h : many < 1) :
    Calls Try.prog 23 #[.pointer (some ⟨g, 0, none⟩), .int .i64 many] w fun e w' => e = .returned (.tuple #[.slice none 0 0, .int .i64 20]) ∧ w = w' := by
  have h1 : decide (many < 1) = true := decide_eq_true h
  clear h
  go_enter Try.func23, Try.ntmps23
  go_wp2
  go_ret2
  exact ⟨rfl, rfl⟩
set_option maxHeartbeats 8000000 in
set_option maxRecDepth 100000 in
theorem rTake_many (w : World) (B g ab n c : Nat) (t : Nat → Nat) (many : Int) (hs : RefAt w B g ab n c t) (h : ((freeTo n t n).length : Int) < many) (h0 : 1 ≤ many) :
    Calls Try.prog 23 #[.pointer (some ⟨g, 0, none⟩), .int .i64 many] w fun e w' => e = .returned (.tuple #[.slice none 0 0, .int .i64 21]) ∧ w.grownBy w' none := by
  have h1 : decide (many < 1) = false := decide_eq_false (by omega)
  have h2 : decide (((freeTo n t n).length : Int) < many) = true := decide_eq_true h
  clear h
  have HS := Aside0.mk hs
  clear hs
  go_enter Try.func23, Try.ntmps23
  go_wp2_with (go_at_call 19; refine (rList_calls _ _ _ _ _ _ _ HS.out).mono ?_; rintro e w1 ⟨v, rfl, ho, hg⟩; obtain ⟨A, c, rfl, hr⟩ := own_reads ho; have HG := Aside0.mk hg; clear ho hg hr)
  go_ret2
  exact ⟨rfl, HG.out⟩
end Go.Proofs.Ytohopfbacfddbaa.S
