-- Laid by a program of this session (wip/tools/pr.py): contracts and pure functions; Lean checks it.
import Derived.Test.YtcolhngdhlamkaaGCTx0
import Derived.Test.YtcolhngdhlamkaaGCTx11
namespace Go.Proofs.Ytcolhngdhlamkaa.GCT
open Go.RowKit Go.Proofs.YtcolhngdhlamkaaW.PrintWords Go.Proofs.YtcolhngdhlamkaaW.PrintLast Go.Proofs.YtcolhngdhlamkaaW.PrintMore
attribute [local go_sem] max2_int min2_int max_two min_two max_three min_three max_four min_four   -- for this text's walks alone
set_option linter.unusedVariables false
set_option linter.unusedSimpArgs false

/-! ### backfillref11_ranges: function 77 -/
def backfillref11_ranges.j0 : Nat → Bool → Int → Int → Int → Int → Int → Int → Int → Int → Option (Bool)
 | 0, _, _, _, _, _, _, _, _, _ => none
 | k + 1, x3, x318000, x318001, x318002, x318003, x318004, x318005, x318006, x318007 => (backfillref11_within.f x318003 1 1048576).bind fun t321 => (if t321 = true then ((backfillref11_within.f x318004 0 1048576).bind fun t322 => (if t322 = true then ((backfillref11_within.f x318005 0 1048576).bind fun t323 => (if x3 = true then (if t323 = true then ((backfillref11_within.f x318006 1 1048576).bind fun t324 => (if t324 = true then ((backfillref11_within.f x318007 1 1073741824).bind fun t325 => (some t325)) else (some false))) else (some false)) else (some false))) else (if x3 = true then (some false) else (some false)))) else (if x3 = true then (some false) else (some false)))
def backfillref11_ranges.f (k : Nat) (a0_0 : Int) (a0_1 : Int) (a0_2 : Int) (a0_3 : Int) (a0_4 : Int) (a0_5 : Int) (a0_6 : Int) (a0_7 : Int) : Option (Bool) := (backfillref11_within.f a0_0 1 256).bind fun t318 => (if t318 = true then ((backfillref11_within.f a0_1 1 128).bind fun t319 => (if t319 = true then ((backfillref11_within.f a0_2 1 1048576).bind fun t320 => (backfillref11_ranges.j0 k t320 a0_0 a0_1 a0_2 a0_3 a0_4 a0_5 a0_6 a0_7)) else (backfillref11_ranges.j0 k false a0_0 a0_1 a0_2 a0_3 a0_4 a0_5 a0_6 a0_7))) else (backfillref11_ranges.j0 k false a0_0 a0_1 a0_2 a0_3 a0_4 a0_5 a0_6 a0_7))
theorem backfillref11_ranges.mono_l : ∀ k, (∀ y0 y1 y2 y3 y4 y5 y6 y7 y8, LeO (backfillref11_ranges.j0 k y0 y1 y2 y3 y4 y5 y6 y7 y8) (backfillref11_ranges.j0 (k + 1) y0 y1 y2 y3 y4 y5 y6 y7 y8))
 | 0 => fun _ _ _ _ _ _ _ _ _ r h => by simp [backfillref11_ranges.j0] at h
 | k + 1 => by
  have ih0 := backfillref11_ranges.mono_l k
  ·intro y0 y1 y2 y3 y4 y5 y6 y7 y8
   unfold backfillref11_ranges.j0
   repeat' first
   | (with_reducible exact ih0 _ _ _ _ _ _ _ _ _)
   | (with_reducible exact LeO.refl _)
   | (with_reducible exact LeO.none _)
   | (with_reducible refine LeO.ite ?_ ?_)
   | (with_reducible refine LeO.bind ?_ (fun _ => ?_))
   | exact ih0 _ _ _ _ _ _ _ _ _
   | exact LeO.none _
   | refine LeO.ite ?_ ?_
   | refine LeO.bind ?_ (fun _ => ?_)
theorem backfillref11_ranges.mono : ∀ a0 a1 a2 a3 a4 a5 a6 a7 k, LeO (backfillref11_ranges.f k a0 a1 a2 a3 a4 a5 a6 a7) (backfillref11_ranges.f (k + 1) a0 a1 a2 a3 a4 a5 a6 a7) := by
 intro a0 a1 a2 a3 a4 a5 a6 a7 k
 have ih0 := backfillref11_ranges.mono_l k
 unfold backfillref11_ranges.f
 repeat' first
   | (with_reducible exact ih0 _ _ _ _ _ _ _ _ _)
   | (with_reducible exact LeO.refl _)
   | (with_reducible exact LeO.none _)
   | (with_reducible refine LeO.ite ?_ ?_)
   | (with_reducible refine LeO.bind ?_ (fun _ => ?_))
   | exact ih0 _ _ _ _ _ _ _ _ _
   | exact LeO.none _
   | refine LeO.ite ?_ ?_
   | refine LeO.bind ?_ (fun _ => ?_)
set_option maxHeartbeats 8000000 in
set_option maxRecDepth 100000 in
theorem backfillref11_ranges.calls (k : Nat) (a0_0 : Int) (a0_1 : Int) (a0_2 : Int) (a0_3 : Int) (a0_4 : Int) (a0_5 : Int) (a0_6 : Int) (a0_7 : Int) (r : Bool) (w : World) (h : backfillref11_ranges.f k a0_0 a0_1 a0_2 a0_3 a0_4 a0_5 a0_6 a0_7 = some r) :
  Calls Try.prog 77 #[.agg #[.int .i64 a0_0, .int .i64 a0_1, .int .i64 a0_2, .int .i64 a0_3, .int .i64 a0_4, .int .i64 a0_5, .int .i64 a0_6, .int .i64 a0_7]] w fun e w' => e = .returned (.bool r) ∧ Below w.heap.size w w' := by
 have hu39 := Try.underlying39
 have HB := Aside0.mk (Below.refl w.heap.size w)
 have H : ((backfillref11_within.f a0_0 1 256).bind fun t318 => (if t318 = true then ((backfillref11_within.f a0_1 1 128).bind fun t319 => (if t319 = true then ((backfillref11_within.f a0_2 1 1048576).bind fun t320 => (backfillref11_ranges.j0 k t320 a0_0 a0_1 a0_2 a0_3 a0_4 a0_5 a0_6 a0_7)) else (backfillref11_ranges.j0 k false a0_0 a0_1 a0_2 a0_3 a0_4 a0_5 a0_6 a0_7))) else (backfillref11_ranges.j0 k false a0_0 a0_1 a0_2 a0_3 a0_4 a0_5 a0_6 a0_7))) = some r := h
 clear h
 have HC2 := Aside0.mk H
 clear H
 go_enter Try.func77, Try.ntmps77
 go_upto_region 1 with (first | ((with_reducible refine gate_dst (N := 1) rfl ?_); refine bxA 1 #[.int .i64 a0_0, .int .i64 a0_1, .int .i64 a0_2, .int .i64 a0_3, .int .i64 a0_4, .int .i64 a0_5, .int .i64 a0_6, .int .i64 a0_7] 39 ?_; intro gb317 hg w3 hbox hb; have n0_ := Aside0.mk (below_step bA hb); have n1_ := Aside0.mk (hbox); have n2_ := Aside0.mk (gwA hg bA); have n3_ := Aside0.mk (gwA hg bA); clear HB; have HB := n0_; have BK317 := n1_; have GW317 := n2_; have GE317 := n3_; clear n0_ n1_ n2_ n3_ hb hbox hg))
 (try simp only [Act.put, List.setIfInBounds_toArray, List.set_cons_zero, List.set_cons_succ])
 go_cut [3] (fun v3 wc => ∃ (kq : Nat) (x3_1 : Bool), v3 = .bool x3_1 ∧ Aside0 (backfillref11_ranges.j0 kq x3_1 a0_0 a0_1 a0_2 a0_3 a0_4 a0_5 a0_6 a0_7 = some r) ∧ Aside0 (kq ≤ k) ∧ Aside0 (wc.heap[gb317]? = some (.cells #[.int .i64 a0_0, .int .i64 a0_1, .int .i64 a0_2, .int .i64 a0_3, .int .i64 a0_4, .int .i64 a0_5, .int .i64 a0_6, .int .i64 a0_7] 39 (0, 0))) ∧ Aside0 (Below w.heap.size w wc))
 case first =>
  have H := HC2.out
  clear HC2; replace H := Option.bind_eq_some_iff.mp H; obtain ⟨t318, A40, H⟩ := H; replace H : (if t318 = true then ((backfillref11_within.f a0_1 1 128).bind fun t319 => (if t319 = true then ((backfillref11_within.f a0_2 1 1048576).bind fun t320 => (backfillref11_ranges.j0 k t320 a0_0 a0_1 a0_2 a0_3 a0_4 a0_5 a0_6 a0_7)) else (backfillref11_ranges.j0 k false a0_0 a0_1 a0_2 a0_3 a0_4 a0_5 a0_6 a0_7))) else (backfillref11_ranges.j0 k false a0_0 a0_1 a0_2 a0_3 a0_4 a0_5 a0_6 a0_7)) = some r := H; have A4 := Aside0.mk A40; clear A40
  by_cases c5 : t318 = true
  ·subst c5
   have H1 : ((backfillref11_within.f a0_1 1 128).bind fun t319 => (if t319 = true then ((backfillref11_within.f a0_2 1 1048576).bind fun t320 => (backfillref11_ranges.j0 k t320 a0_0 a0_1 a0_2 a0_3 a0_4 a0_5 a0_6 a0_7)) else (backfillref11_ranges.j0 k false a0_0 a0_1 a0_2 a0_3 a0_4 a0_5 a0_6 a0_7))) = some r := by rw [if_pos rfl] at H; exact H
   clear H
   have H := H1
   clear H1; replace H := Option.bind_eq_some_iff.mp H; obtain ⟨t319, A60, H⟩ := H; replace H : (if t319 = true then ((backfillref11_within.f a0_2 1 1048576).bind fun t320 => (backfillref11_ranges.j0 k t320 a0_0 a0_1 a0_2 a0_3 a0_4 a0_5 a0_6 a0_7)) else (backfillref11_ranges.j0 k false a0_0 a0_1 a0_2 a0_3 a0_4 a0_5 a0_6 a0_7)) = some r := H; have A6 := Aside0.mk A60; clear A60
   by_cases c7 : t319 = true
   ·subst c7
    have H1 : ((backfillref11_within.f a0_2 1 1048576).bind fun t320 => (backfillref11_ranges.j0 k t320 a0_0 a0_1 a0_2 a0_3 a0_4 a0_5 a0_6 a0_7)) = some r := by rw [if_pos rfl] at H; exact H
    clear H
    have H := H1
    clear H1; replace H := Option.bind_eq_some_iff.mp H; obtain ⟨t320, A80, H⟩ := H; replace H : (backfillref11_ranges.j0 k t320 a0_0 a0_1 a0_2 a0_3 a0_4 a0_5 a0_6 a0_7) = some r := H; have A8 := Aside0.mk A80; clear A80
    have H' := Aside0.mk H
    clear H
    have hcz9_0 : w3.cell? ⟨gb317, 0, none⟩ = some (.int .i64 a0_0) := (blk_cell BK317.out 0).trans rfl
    have hcz9_1 : w3.cell? ⟨gb317, 1, none⟩ = some (.int .i64 a0_1) := (blk_cell BK317.out 1).trans rfl
    have hcz9_2 : w3.cell? ⟨gb317, 2, none⟩ = some (.int .i64 a0_2) := (blk_cell BK317.out 2).trans rfl
    have hcz9_3 : w3.cell? ⟨gb317, 3, none⟩ = some (.int .i64 a0_3) := (blk_cell BK317.out 3).trans rfl
    have hcz9_4 : w3.cell? ⟨gb317, 4, none⟩ = some (.int .i64 a0_4) := (blk_cell BK317.out 4).trans rfl
    have hcz9_5 : w3.cell? ⟨gb317, 5, none⟩ = some (.int .i64 a0_5) := (blk_cell BK317.out 5).trans rfl
    have hcz9_6 : w3.cell? ⟨gb317, 6, none⟩ = some (.int .i64 a0_6) := (blk_cell BK317.out 6).trans rfl
    have hcz9_7 : w3.cell? ⟨gb317, 7, none⟩ = some (.int .i64 a0_7) := (blk_cell BK317.out 7).trans rfl
    have hfz9_0 := blk_frozen BK317.out 0
    have hfz9_1 := blk_frozen BK317.out 1
    have hfz9_2 := blk_frozen BK317.out 2
    have hfz9_3 := blk_frozen BK317.out 3
    have hfz9_4 := blk_frozen BK317.out 4
    have hfz9_5 := blk_frozen BK317.out 5
    have hfz9_6 := blk_frozen BK317.out 6
    have hfz9_7 := blk_frozen BK317.out 7
    go_wp2_with (first | ((with_reducible refine gate_callee (f := 104) rfl ?_); refine goesL_ (some 7) rfl rfl Try.func104 (by kernel_rfl) rfl #[.int .i64 a0_0, .int .i64 1, .int .i64 256] rfl aA ?_; (with_reducible refine (backfillref11_within.calls a0_0 1 256 true _ A4.out).mono ?_); rintro e w' ⟨rfl, ⟨nd, rfl⟩⟩; refine ⟨_, rfl, ?_⟩) | (go_at_call 104; (with_reducible refine (backfillref11_within.calls a0_1 1 128 true _ A6.out).mono ?_); rintro e w' ⟨rfl, ⟨nd, rfl⟩⟩) | (go_at_call 104; (with_reducible refine (backfillref11_within.calls a0_2 1 1048576 t320 _ A8.out).mono ?_); rintro e w' ⟨rfl, ⟨nd, rfl⟩⟩))
    go_meet
    case rel => exact ⟨_, (t320), (by first | rfl | (simp; done) | (simp [*]; done)), H', ⟨by first | omega | exact Nat.le_refl _⟩, ⟨by exact kA⟩, ⟨bA⟩⟩
   ·replace c7 := Bool.eq_false_iff.mpr c7
    subst c7
    have H1 : (backfillref11_ranges.j0 k false a0_0 a0_1 a0_2 a0_3 a0_4 a0_5 a0_6 a0_7) = some r := by rw [if_neg (show ¬ (false = true) by decide)] at H; exact H
    clear H
    have H := H1
    clear H1
    have H' := Aside0.mk H
    clear H
    have hcz10_0 : w3.cell? ⟨gb317, 0, none⟩ = some (.int .i64 a0_0) := (blk_cell BK317.out 0).trans rfl
    have hcz10_1 : w3.cell? ⟨gb317, 1, none⟩ = some (.int .i64 a0_1) := (blk_cell BK317.out 1).trans rfl
    have hcz10_2 : w3.cell? ⟨gb317, 2, none⟩ = some (.int .i64 a0_2) := (blk_cell BK317.out 2).trans rfl
    have hcz10_3 : w3.cell? ⟨gb317, 3, none⟩ = some (.int .i64 a0_3) := (blk_cell BK317.out 3).trans rfl
    have hcz10_4 : w3.cell? ⟨gb317, 4, none⟩ = some (.int .i64 a0_4) := (blk_cell BK317.out 4).trans rfl
    have hcz10_5 : w3.cell? ⟨gb317, 5, none⟩ = some (.int .i64 a0_5) := (blk_cell BK317.out 5).trans rfl
    have hcz10_6 : w3.cell? ⟨gb317, 6, none⟩ = some (.int .i64 a0_6) := (blk_cell BK317.out 6).trans rfl
    have hcz10_7 : w3.cell? ⟨gb317, 7, none⟩ = some (.int .i64 a0_7) := (blk_cell BK317.out 7).trans rfl
    have hfz10_0 := blk_frozen BK317.out 0
    have hfz10_1 := blk_frozen BK317.out 1
    have hfz10_2 := blk_frozen BK317.out 2
    have hfz10_3 := blk_frozen BK317.out 3
    have hfz10_4 := blk_frozen BK317.out 4
    have hfz10_5 := blk_frozen BK317.out 5
    have hfz10_6 := blk_frozen BK317.out 6
    have hfz10_7 := blk_frozen BK317.out 7
    go_wp2_with (first | ((with_reducible refine gate_callee (f := 104) rfl ?_); refine goesL_ (some 7) rfl rfl Try.func104 (by kernel_rfl) rfl #[.int .i64 a0_0, .int .i64 1, .int .i64 256] rfl aA ?_; (with_reducible refine (backfillref11_within.calls a0_0 1 256 true _ A4.out).mono ?_); rintro e w' ⟨rfl, ⟨nd, rfl⟩⟩; refine ⟨_, rfl, ?_⟩) | (go_at_call 104; (with_reducible refine (backfillref11_within.calls a0_1 1 128 false _ A6.out).mono ?_); rintro e w' ⟨rfl, ⟨nd, rfl⟩⟩))
    go_meet
    case rel => exact ⟨_, (false), (by first | rfl | (simp; done) | (simp [*]; done)), H', ⟨by first | omega | exact Nat.le_refl _⟩, ⟨by exact kA⟩, ⟨bA⟩⟩
  ·replace c5 := Bool.eq_false_iff.mpr c5
   subst c5
   have H1 : (backfillref11_ranges.j0 k false a0_0 a0_1 a0_2 a0_3 a0_4 a0_5 a0_6 a0_7) = some r := by rw [if_neg (show ¬ (false = true) by decide)] at H; exact H
   clear H
   have H := H1
   clear H1
   have H' := Aside0.mk H
   clear H
   have hcz11_0 : w3.cell? ⟨gb317, 0, none⟩ = some (.int .i64 a0_0) := (blk_cell BK317.out 0).trans rfl
   have hcz11_1 : w3.cell? ⟨gb317, 1, none⟩ = some (.int .i64 a0_1) := (blk_cell BK317.out 1).trans rfl
   have hcz11_2 : w3.cell? ⟨gb317, 2, none⟩ = some (.int .i64 a0_2) := (blk_cell BK317.out 2).trans rfl
   have hcz11_3 : w3.cell? ⟨gb317, 3, none⟩ = some (.int .i64 a0_3) := (blk_cell BK317.out 3).trans rfl
   have hcz11_4 : w3.cell? ⟨gb317, 4, none⟩ = some (.int .i64 a0_4) := (blk_cell BK317.out 4).trans rfl
   have hcz11_5 : w3.cell? ⟨gb317, 5, none⟩ = some (.int .i64 a0_5) := (blk_cell BK317.out 5).trans rfl
   have hcz11_6 : w3.cell? ⟨gb317, 6, none⟩ = some (.int .i64 a0_6) := (blk_cell BK317.out 6).trans rfl
   have hcz11_7 : w3.cell? ⟨gb317, 7, none⟩ = some (.int .i64 a0_7) := (blk_cell BK317.out 7).trans rfl
   have hfz11_0 := blk_frozen BK317.out 0
   have hfz11_1 := blk_frozen BK317.out 1
   have hfz11_2 := blk_frozen BK317.out 2
   have hfz11_3 := blk_frozen BK317.out 3
   have hfz11_4 := blk_frozen BK317.out 4
   have hfz11_5 := blk_frozen BK317.out 5
   have hfz11_6 := blk_frozen BK317.out 6
   have hfz11_7 := blk_frozen BK317.out 7
   go_wp2_with (first | ((with_reducible refine gate_callee (f := 104) rfl ?_); refine goesL_ (some 7) rfl rfl Try.func104 (by kernel_rfl) rfl #[.int .i64 a0_0, .int .i64 1, .int .i64 256] rfl aA ?_; (with_reducible refine (backfillref11_within.calls a0_0 1 256 false _ A4.out).mono ?_); rintro e w' ⟨rfl, ⟨nd, rfl⟩⟩; refine ⟨_, rfl, ?_⟩))
   go_meet
   case rel => exact ⟨_, (false), (by first | rfl | (simp; done) | (simp [*]; done)), H', ⟨by first | omega | exact Nat.le_refl _⟩, ⟨by exact kA⟩, ⟨bA⟩⟩
 case rest =>
  clear HC2
  try clear c1
  try clear p2
  try clear c5
  try clear c7
  try clear c10
  try clear hcz10_0
  try clear hcz10_1
  try clear hcz10_2
  try clear hcz10_3
  try clear hcz10_4
  try clear hcz10_5
  try clear hcz10_6
  try clear hcz10_7
  try clear hcz11_0
  try clear hcz11_1
  try clear hcz11_2
  try clear hcz11_3
  try clear hcz11_4
  try clear hcz11_5
  try clear hcz11_6
  try clear hcz11_7
  try clear hcz9_0
  try clear hcz9_1
  try clear hcz9_2
  try clear hcz9_3
  try clear hcz9_4
  try clear hcz9_5
  try clear hcz9_6
  try clear hcz9_7
  try clear hfz10_0
  try clear hfz10_1
  try clear hfz10_2
  try clear hfz10_3
  try clear hfz10_4
  try clear hfz10_5
  try clear hfz10_6
  try clear hfz10_7
  try clear hfz11_0
  try clear hfz11_1
  try clear hfz11_2
  try clear hfz11_3
  try clear hfz11_4
  try clear hfz11_5
  try clear hfz11_6
  try clear hfz11_7
  try clear hfz9_0
  try clear hfz9_1
  try clear hfz9_2
  try clear hfz9_3
  try clear hfz9_4
  try clear hfz9_5
  try clear hfz9_6
  try clear hfz9_7
  obtain ⟨kq, x3_1, rfl, HA, HJ1, BK317, HB⟩ := hcut
  cases kq with
  | zero => exact absurd HA.out (by simp [backfillref11_ranges.j0])
  | succ kj1 =>
   have H := HA.out
   clear HA
   simp only [backfillref11_ranges.j0] at H
   replace H := Option.bind_eq_some_iff.mp H; obtain ⟨t321, A120, H⟩ := H; replace H : (if t321 = true then ((backfillref11_within.f a0_4 0 1048576).bind fun t322 => (if t322 = true then ((backfillref11_within.f a0_5 0 1048576).bind fun t323 => (if x3_1 = true then (if t323 = true then ((backfillref11_within.f a0_6 1 1048576).bind fun t324 => (if t324 = true then ((backfillref11_within.f a0_7 1 1073741824).bind fun t325 => (some t325)) else (some false))) else (some false)) else (some false))) else (if x3_1 = true then (some false) else (some false)))) else (if x3_1 = true then (some false) else (some false))) = some r := H; have A12 := Aside0.mk A120; clear A120
   by_cases c13 : t321 = true
   ·subst c13
    have H1 : ((backfillref11_within.f a0_4 0 1048576).bind fun t322 => (if t322 = true then ((backfillref11_within.f a0_5 0 1048576).bind fun t323 => (if x3_1 = true then (if t323 = true then ((backfillref11_within.f a0_6 1 1048576).bind fun t324 => (if t324 = true then ((backfillref11_within.f a0_7 1 1073741824).bind fun t325 => (some t325)) else (some false))) else (some false)) else (some false))) else (if x3_1 = true then (some false) else (some false)))) = some r := by rw [if_pos rfl] at H; exact H
    clear H
    have H := H1
    clear H1; replace H := Option.bind_eq_some_iff.mp H; obtain ⟨t322, A140, H⟩ := H; replace H : (if t322 = true then ((backfillref11_within.f a0_5 0 1048576).bind fun t323 => (if x3_1 = true then (if t323 = true then ((backfillref11_within.f a0_6 1 1048576).bind fun t324 => (if t324 = true then ((backfillref11_within.f a0_7 1 1073741824).bind fun t325 => (some t325)) else (some false))) else (some false)) else (some false))) else (if x3_1 = true then (some false) else (some false))) = some r := H; have A14 := Aside0.mk A140; clear A140
    by_cases c15 : t322 = true
    ·subst c15
     have H1 : ((backfillref11_within.f a0_5 0 1048576).bind fun t323 => (if x3_1 = true then (if t323 = true then ((backfillref11_within.f a0_6 1 1048576).bind fun t324 => (if t324 = true then ((backfillref11_within.f a0_7 1 1073741824).bind fun t325 => (some t325)) else (some false))) else (some false)) else (some false))) = some r := by rw [if_pos rfl] at H; exact H
     clear H
     have H := H1
     clear H1; replace H := Option.bind_eq_some_iff.mp H; obtain ⟨t323, A160, H⟩ := H; replace H : (if x3_1 = true then (if t323 = true then ((backfillref11_within.f a0_6 1 1048576).bind fun t324 => (if t324 = true then ((backfillref11_within.f a0_7 1 1073741824).bind fun t325 => (some t325)) else (some false))) else (some false)) else (some false)) = some r := H; have A16 := Aside0.mk A160; clear A160
     by_cases c17 : x3_1 = true
     ·subst c17
      have H1 : (if t323 = true then ((backfillref11_within.f a0_6 1 1048576).bind fun t324 => (if t324 = true then ((backfillref11_within.f a0_7 1 1073741824).bind fun t325 => (some t325)) else (some false))) else (some false)) = some r := by rw [if_pos rfl] at H; exact H
      clear H
      have H := H1
      clear H1
      by_cases c18 : t323 = true
      ·subst c18
       have H1 : ((backfillref11_within.f a0_6 1 1048576).bind fun t324 => (if t324 = true then ((backfillref11_within.f a0_7 1 1073741824).bind fun t325 => (some t325)) else (some false))) = some r := by rw [if_pos rfl] at H; exact H
       clear H
       have H := H1
       clear H1; replace H := Option.bind_eq_some_iff.mp H; obtain ⟨t324, A190, H⟩ := H; replace H : (if t324 = true then ((backfillref11_within.f a0_7 1 1073741824).bind fun t325 => (some t325)) else (some false)) = some r := H; have A19 := Aside0.mk A190; clear A190
       by_cases c20 : t324 = true
       ·subst c20
        have H1 : ((backfillref11_within.f a0_7 1 1073741824).bind fun t325 => (some t325)) = some r := by rw [if_pos rfl] at H; exact H
        clear H
        have H := H1
        clear H1; replace H := Option.bind_eq_some_iff.mp H; obtain ⟨t325, A210, H⟩ := H; replace H : (some t325) = some r := H; have A21 := Aside0.mk A210; clear A210
        obtain rfl := Option.some.inj H
        have hcz22_0 : wc.cell? ⟨gb317, 0, none⟩ = some (.int .i64 a0_0) := (blk_cell BK317.out 0).trans rfl
        have hcz22_1 : wc.cell? ⟨gb317, 1, none⟩ = some (.int .i64 a0_1) := (blk_cell BK317.out 1).trans rfl
        have hcz22_2 : wc.cell? ⟨gb317, 2, none⟩ = some (.int .i64 a0_2) := (blk_cell BK317.out 2).trans rfl
        have hcz22_3 : wc.cell? ⟨gb317, 3, none⟩ = some (.int .i64 a0_3) := (blk_cell BK317.out 3).trans rfl
        have hcz22_4 : wc.cell? ⟨gb317, 4, none⟩ = some (.int .i64 a0_4) := (blk_cell BK317.out 4).trans rfl
        have hcz22_5 : wc.cell? ⟨gb317, 5, none⟩ = some (.int .i64 a0_5) := (blk_cell BK317.out 5).trans rfl
        have hcz22_6 : wc.cell? ⟨gb317, 6, none⟩ = some (.int .i64 a0_6) := (blk_cell BK317.out 6).trans rfl
        have hcz22_7 : wc.cell? ⟨gb317, 7, none⟩ = some (.int .i64 a0_7) := (blk_cell BK317.out 7).trans rfl
        have hfz22_0 := blk_frozen BK317.out 0
        have hfz22_1 := blk_frozen BK317.out 1
        have hfz22_2 := blk_frozen BK317.out 2
        have hfz22_3 := blk_frozen BK317.out 3
        have hfz22_4 := blk_frozen BK317.out 4
        have hfz22_5 := blk_frozen BK317.out 5
        have hfz22_6 := blk_frozen BK317.out 6
        have hfz22_7 := blk_frozen BK317.out 7
        go_wp2_with (first | ((with_reducible refine gate_callee (f := 104) rfl ?_); refine goesL_ (some 20) rfl rfl Try.func104 (by kernel_rfl) rfl #[.int .i64 a0_3, .int .i64 1, .int .i64 1048576] rfl aA ?_; (with_reducible refine (backfillref11_within.calls a0_3 1 1048576 true _ A12.out).mono ?_); rintro e w' ⟨rfl, ⟨nd, rfl⟩⟩; refine ⟨_, rfl, ?_⟩) | (go_at_call 104; (with_reducible refine (backfillref11_within.calls a0_4 0 1048576 true _ A14.out).mono ?_); rintro e w' ⟨rfl, ⟨nd, rfl⟩⟩) | (go_at_call 104; (with_reducible refine (backfillref11_within.calls a0_5 0 1048576 true _ A16.out).mono ?_); rintro e w' ⟨rfl, ⟨nd, rfl⟩⟩) | (go_at_call 104; (with_reducible refine (backfillref11_within.calls a0_6 1 1048576 true _ A19.out).mono ?_); rintro e w' ⟨rfl, ⟨nd, rfl⟩⟩) | (go_at_call 104; (with_reducible refine (backfillref11_within.calls a0_7 1 1073741824 t325 _ A21.out).mono ?_); rintro e w' ⟨rfl, ⟨nd, rfl⟩⟩))
        go_ret
        exact ⟨by first | rfl | (simp [errW_none, errW_some] <;> rfl) | (simp [*, errW_none, errW_some] <;> rfl), bA⟩
       ·replace c20 := Bool.eq_false_iff.mpr c20
        subst c20
        have H1 : (some false) = some r := by rw [if_neg (show ¬ (false = true) by decide)] at H; exact H
        clear H
        have H := H1
        clear H1
        obtain rfl := Option.some.inj H
        have hcz23_0 : wc.cell? ⟨gb317, 0, none⟩ = some (.int .i64 a0_0) := (blk_cell BK317.out 0).trans rfl
        have hcz23_1 : wc.cell? ⟨gb317, 1, none⟩ = some (.int .i64 a0_1) := (blk_cell BK317.out 1).trans rfl
        have hcz23_2 : wc.cell? ⟨gb317, 2, none⟩ = some (.int .i64 a0_2) := (blk_cell BK317.out 2).trans rfl
        have hcz23_3 : wc.cell? ⟨gb317, 3, none⟩ = some (.int .i64 a0_3) := (blk_cell BK317.out 3).trans rfl
        have hcz23_4 : wc.cell? ⟨gb317, 4, none⟩ = some (.int .i64 a0_4) := (blk_cell BK317.out 4).trans rfl
        have hcz23_5 : wc.cell? ⟨gb317, 5, none⟩ = some (.int .i64 a0_5) := (blk_cell BK317.out 5).trans rfl
        have hcz23_6 : wc.cell? ⟨gb317, 6, none⟩ = some (.int .i64 a0_6) := (blk_cell BK317.out 6).trans rfl
        have hcz23_7 : wc.cell? ⟨gb317, 7, none⟩ = some (.int .i64 a0_7) := (blk_cell BK317.out 7).trans rfl
        have hfz23_0 := blk_frozen BK317.out 0
        have hfz23_1 := blk_frozen BK317.out 1
        have hfz23_2 := blk_frozen BK317.out 2
        have hfz23_3 := blk_frozen BK317.out 3
        have hfz23_4 := blk_frozen BK317.out 4
        have hfz23_5 := blk_frozen BK317.out 5
        have hfz23_6 := blk_frozen BK317.out 6
        have hfz23_7 := blk_frozen BK317.out 7
        go_wp2_with (first | ((with_reducible refine gate_callee (f := 104) rfl ?_); refine goesL_ (some 20) rfl rfl Try.func104 (by kernel_rfl) rfl #[.int .i64 a0_3, .int .i64 1, .int .i64 1048576] rfl aA ?_; (with_reducible refine (backfillref11_within.calls a0_3 1 1048576 true _ A12.out).mono ?_); rintro e w' ⟨rfl, ⟨nd, rfl⟩⟩; refine ⟨_, rfl, ?_⟩) | (go_at_call 104; (with_reducible refine (backfillref11_within.calls a0_4 0 1048576 true _ A14.out).mono ?_); rintro e w' ⟨rfl, ⟨nd, rfl⟩⟩) | (go_at_call 104; (with_reducible refine (backfillref11_within.calls a0_5 0 1048576 true _ A16.out).mono ?_); rintro e w' ⟨rfl, ⟨nd, rfl⟩⟩) | (go_at_call 104; (with_reducible refine (backfillref11_within.calls a0_6 1 1048576 false _ A19.out).mono ?_); rintro e w' ⟨rfl, ⟨nd, rfl⟩⟩))
        go_ret
        exact ⟨by first | rfl | (simp [errW_none, errW_some] <;> rfl) | (simp [*, errW_none, errW_some] <;> rfl), bA⟩
      ·replace c18 := Bool.eq_false_iff.mpr c18
       subst c18
       have H1 : (some false) = some r := by rw [if_neg (show ¬ (false = true) by decide)] at H; exact H
       clear H
       have H := H1
       clear H1
       obtain rfl := Option.some.inj H
       have hcz24_0 : wc.cell? ⟨gb317, 0, none⟩ = some (.int .i64 a0_0) := (blk_cell BK317.out 0).trans rfl
       have hcz24_1 : wc.cell? ⟨gb317, 1, none⟩ = some (.int .i64 a0_1) := (blk_cell BK317.out 1).trans rfl
       have hcz24_2 : wc.cell? ⟨gb317, 2, none⟩ = some (.int .i64 a0_2) := (blk_cell BK317.out 2).trans rfl
       have hcz24_3 : wc.cell? ⟨gb317, 3, none⟩ = some (.int .i64 a0_3) := (blk_cell BK317.out 3).trans rfl
       have hcz24_4 : wc.cell? ⟨gb317, 4, none⟩ = some (.int .i64 a0_4) := (blk_cell BK317.out 4).trans rfl
       have hcz24_5 : wc.cell? ⟨gb317, 5, none⟩ = some (.int .i64 a0_5) := (blk_cell BK317.out 5).trans rfl
       have hcz24_6 : wc.cell? ⟨gb317, 6, none⟩ = some (.int .i64 a0_6) := (blk_cell BK317.out 6).trans rfl
       have hcz24_7 : wc.cell? ⟨gb317, 7, none⟩ = some (.int .i64 a0_7) := (blk_cell BK317.out 7).trans rfl
       have hfz24_0 := blk_frozen BK317.out 0
       have hfz24_1 := blk_frozen BK317.out 1
       have hfz24_2 := blk_frozen BK317.out 2
       have hfz24_3 := blk_frozen BK317.out 3
       have hfz24_4 := blk_frozen BK317.out 4
       have hfz24_5 := blk_frozen BK317.out 5
       have hfz24_6 := blk_frozen BK317.out 6
       have hfz24_7 := blk_frozen BK317.out 7
       go_wp2_with (first | ((with_reducible refine gate_callee (f := 104) rfl ?_); refine goesL_ (some 20) rfl rfl Try.func104 (by kernel_rfl) rfl #[.int .i64 a0_3, .int .i64 1, .int .i64 1048576] rfl aA ?_; (with_reducible refine (backfillref11_within.calls a0_3 1 1048576 true _ A12.out).mono ?_); rintro e w' ⟨rfl, ⟨nd, rfl⟩⟩; refine ⟨_, rfl, ?_⟩) | (go_at_call 104; (with_reducible refine (backfillref11_within.calls a0_4 0 1048576 true _ A14.out).mono ?_); rintro e w' ⟨rfl, ⟨nd, rfl⟩⟩) | (go_at_call 104; (with_reducible refine (backfillref11_within.calls a0_5 0 1048576 false _ A16.out).mono ?_); rintro e w' ⟨rfl, ⟨nd, rfl⟩⟩))
       go_ret
       exact ⟨by first | rfl | (simp [errW_none, errW_some] <;> rfl) | (simp [*, errW_none, errW_some] <;> rfl), bA⟩
     ·replace c17 := Bool.eq_false_iff.mpr c17
      subst c17
      have H1 : (some false) = some r := by rw [if_neg (show ¬ (false = true) by decide)] at H; exact H
      clear H
      have H := H1
      clear H1
      obtain rfl := Option.some.inj H
      have hcz25_0 : wc.cell? ⟨gb317, 0, none⟩ = some (.int .i64 a0_0) := (blk_cell BK317.out 0).trans rfl
      have hcz25_1 : wc.cell? ⟨gb317, 1, none⟩ = some (.int .i64 a0_1) := (blk_cell BK317.out 1).trans rfl
      have hcz25_2 : wc.cell? ⟨gb317, 2, none⟩ = some (.int .i64 a0_2) := (blk_cell BK317.out 2).trans rfl
      have hcz25_3 : wc.cell? ⟨gb317, 3, none⟩ = some (.int .i64 a0_3) := (blk_cell BK317.out 3).trans rfl
      have hcz25_4 : wc.cell? ⟨gb317, 4, none⟩ = some (.int .i64 a0_4) := (blk_cell BK317.out 4).trans rfl
      have hcz25_5 : wc.cell? ⟨gb317, 5, none⟩ = some (.int .i64 a0_5) := (blk_cell BK317.out 5).trans rfl
      have hcz25_6 : wc.cell? ⟨gb317, 6, none⟩ = some (.int .i64 a0_6) := (blk_cell BK317.out 6).trans rfl
      have hcz25_7 : wc.cell? ⟨gb317, 7, none⟩ = some (.int .i64 a0_7) := (blk_cell BK317.out 7).trans rfl
      have hfz25_0 := blk_frozen BK317.out 0
      have hfz25_1 := blk_frozen BK317.out 1
      have hfz25_2 := blk_frozen BK317.out 2
      have hfz25_3 := blk_frozen BK317.out 3
      have hfz25_4 := blk_frozen BK317.out 4
      have hfz25_5 := blk_frozen BK317.out 5
      have hfz25_6 := blk_frozen BK317.out 6
      have hfz25_7 := blk_frozen BK317.out 7
      go_wp2_with (first | ((with_reducible refine gate_callee (f := 104) rfl ?_); refine goesL_ (some 20) rfl rfl Try.func104 (by kernel_rfl) rfl #[.int .i64 a0_3, .int .i64 1, .int .i64 1048576] rfl aA ?_; (with_reducible refine (backfillref11_within.calls a0_3 1 1048576 true _ A12.out).mono ?_); rintro e w' ⟨rfl, ⟨nd, rfl⟩⟩; refine ⟨_, rfl, ?_⟩) | (go_at_call 104; (with_reducible refine (backfillref11_within.calls a0_4 0 1048576 true _ A14.out).mono ?_); rintro e w' ⟨rfl, ⟨nd, rfl⟩⟩) | (go_at_call 104; (with_reducible refine (backfillref11_within.calls a0_5 0 1048576 t323 _ A16.out).mono ?_); rintro e w' ⟨rfl, ⟨nd, rfl⟩⟩))
      go_ret
      exact ⟨by first | rfl | (simp [errW_none, errW_some] <;> rfl) | (simp [*, errW_none, errW_some] <;> rfl), bA⟩
    ·replace c15 := Bool.eq_false_iff.mpr c15
     subst c15
     have H1 : (if x3_1 = true then (some false) else (some false)) = some r := by rw [if_neg (show ¬ (false = true) by decide)] at H; exact H
     clear H
     have H := H1
     clear H1
     by_cases c26 : x3_1 = true
     ·subst c26
      have H1 : (some false) = some r := by rw [if_pos rfl] at H; exact H
      clear H
      have H := H1
      clear H1
      obtain rfl := Option.some.inj H
      have hcz27_0 : wc.cell? ⟨gb317, 0, none⟩ = some (.int .i64 a0_0) := (blk_cell BK317.out 0).trans rfl
      have hcz27_1 : wc.cell? ⟨gb317, 1, none⟩ = some (.int .i64 a0_1) := (blk_cell BK317.out 1).trans rfl
      have hcz27_2 : wc.cell? ⟨gb317, 2, none⟩ = some (.int .i64 a0_2) := (blk_cell BK317.out 2).trans rfl
      have hcz27_3 : wc.cell? ⟨gb317, 3, none⟩ = some (.int .i64 a0_3) := (blk_cell BK317.out 3).trans rfl
      have hcz27_4 : wc.cell? ⟨gb317, 4, none⟩ = some (.int .i64 a0_4) := (blk_cell BK317.out 4).trans rfl
      have hcz27_5 : wc.cell? ⟨gb317, 5, none⟩ = some (.int .i64 a0_5) := (blk_cell BK317.out 5).trans rfl
      have hcz27_6 : wc.cell? ⟨gb317, 6, none⟩ = some (.int .i64 a0_6) := (blk_cell BK317.out 6).trans rfl
      have hcz27_7 : wc.cell? ⟨gb317, 7, none⟩ = some (.int .i64 a0_7) := (blk_cell BK317.out 7).trans rfl
      have hfz27_0 := blk_frozen BK317.out 0
      have hfz27_1 := blk_frozen BK317.out 1
      have hfz27_2 := blk_frozen BK317.out 2
      have hfz27_3 := blk_frozen BK317.out 3
      have hfz27_4 := blk_frozen BK317.out 4
      have hfz27_5 := blk_frozen BK317.out 5
      have hfz27_6 := blk_frozen BK317.out 6
      have hfz27_7 := blk_frozen BK317.out 7
      go_wp2_with (first | ((with_reducible refine gate_callee (f := 104) rfl ?_); refine goesL_ (some 20) rfl rfl Try.func104 (by kernel_rfl) rfl #[.int .i64 a0_3, .int .i64 1, .int .i64 1048576] rfl aA ?_; (with_reducible refine (backfillref11_within.calls a0_3 1 1048576 true _ A12.out).mono ?_); rintro e w' ⟨rfl, ⟨nd, rfl⟩⟩; refine ⟨_, rfl, ?_⟩) | (go_at_call 104; (with_reducible refine (backfillref11_within.calls a0_4 0 1048576 false _ A14.out).mono ?_); rintro e w' ⟨rfl, ⟨nd, rfl⟩⟩))
      go_ret
      exact ⟨by first | rfl | (simp [errW_none, errW_some] <;> rfl) | (simp [*, errW_none, errW_some] <;> rfl), bA⟩
     ·replace c26 := Bool.eq_false_iff.mpr c26
      subst c26
      have H1 : (some false) = some r := by rw [if_neg (show ¬ (false = true) by decide)] at H; exact H
      clear H
      have H := H1
      clear H1
      obtain rfl := Option.some.inj H
      have hcz28_0 : wc.cell? ⟨gb317, 0, none⟩ = some (.int .i64 a0_0) := (blk_cell BK317.out 0).trans rfl
      have hcz28_1 : wc.cell? ⟨gb317, 1, none⟩ = some (.int .i64 a0_1) := (blk_cell BK317.out 1).trans rfl
      have hcz28_2 : wc.cell? ⟨gb317, 2, none⟩ = some (.int .i64 a0_2) := (blk_cell BK317.out 2).trans rfl
      have hcz28_3 : wc.cell? ⟨gb317, 3, none⟩ = some (.int .i64 a0_3) := (blk_cell BK317.out 3).trans rfl
      have hcz28_4 : wc.cell? ⟨gb317, 4, none⟩ = some (.int .i64 a0_4) := (blk_cell BK317.out 4).trans rfl
      have hcz28_5 : wc.cell? ⟨gb317, 5, none⟩ = some (.int .i64 a0_5) := (blk_cell BK317.out 5).trans rfl
      have hcz28_6 : wc.cell? ⟨gb317, 6, none⟩ = some (.int .i64 a0_6) := (blk_cell BK317.out 6).trans rfl
      have hcz28_7 : wc.cell? ⟨gb317, 7, none⟩ = some (.int .i64 a0_7) := (blk_cell BK317.out 7).trans rfl
      have hfz28_0 := blk_frozen BK317.out 0
      have hfz28_1 := blk_frozen BK317.out 1
      have hfz28_2 := blk_frozen BK317.out 2
      have hfz28_3 := blk_frozen BK317.out 3
      have hfz28_4 := blk_frozen BK317.out 4
      have hfz28_5 := blk_frozen BK317.out 5
      have hfz28_6 := blk_frozen BK317.out 6
      have hfz28_7 := blk_frozen BK317.out 7
      go_wp2_with (first | ((with_reducible refine gate_callee (f := 104) rfl ?_); refine goesL_ (some 20) rfl rfl Try.func104 (by kernel_rfl) rfl #[.int .i64 a0_3, .int .i64 1, .int .i64 1048576] rfl aA ?_; (with_reducible refine (backfillref11_within.calls a0_3 1 1048576 true _ A12.out).mono ?_); rintro e w' ⟨rfl, ⟨nd, rfl⟩⟩; refine ⟨_, rfl, ?_⟩) | (go_at_call 104; (with_reducible refine (backfillref11_within.calls a0_4 0 1048576 false _ A14.out).mono ?_); rintro e w' ⟨rfl, ⟨nd, rfl⟩⟩))
      go_ret
      exact ⟨by first | rfl | (simp [errW_none, errW_some] <;> rfl) | (simp [*, errW_none, errW_some] <;> rfl), bA⟩
   ·replace c13 := Bool.eq_false_iff.mpr c13
    subst c13
    have H1 : (if x3_1 = true then (some false) else (some false)) = some r := by rw [if_neg (show ¬ (false = true) by decide)] at H; exact H
    clear H
    have H := H1
    clear H1
    by_cases c29 : x3_1 = true
    ·subst c29
     have H1 : (some false) = some r := by rw [if_pos rfl] at H; exact H
     clear H
     have H := H1
     clear H1
     obtain rfl := Option.some.inj H
     have hcz30_0 : wc.cell? ⟨gb317, 0, none⟩ = some (.int .i64 a0_0) := (blk_cell BK317.out 0).trans rfl
     have hcz30_1 : wc.cell? ⟨gb317, 1, none⟩ = some (.int .i64 a0_1) := (blk_cell BK317.out 1).trans rfl
     have hcz30_2 : wc.cell? ⟨gb317, 2, none⟩ = some (.int .i64 a0_2) := (blk_cell BK317.out 2).trans rfl
     have hcz30_3 : wc.cell? ⟨gb317, 3, none⟩ = some (.int .i64 a0_3) := (blk_cell BK317.out 3).trans rfl
     have hcz30_4 : wc.cell? ⟨gb317, 4, none⟩ = some (.int .i64 a0_4) := (blk_cell BK317.out 4).trans rfl
     have hcz30_5 : wc.cell? ⟨gb317, 5, none⟩ = some (.int .i64 a0_5) := (blk_cell BK317.out 5).trans rfl
     have hcz30_6 : wc.cell? ⟨gb317, 6, none⟩ = some (.int .i64 a0_6) := (blk_cell BK317.out 6).trans rfl
     have hcz30_7 : wc.cell? ⟨gb317, 7, none⟩ = some (.int .i64 a0_7) := (blk_cell BK317.out 7).trans rfl
     have hfz30_0 := blk_frozen BK317.out 0
     have hfz30_1 := blk_frozen BK317.out 1
     have hfz30_2 := blk_frozen BK317.out 2
     have hfz30_3 := blk_frozen BK317.out 3
     have hfz30_4 := blk_frozen BK317.out 4
     have hfz30_5 := blk_frozen BK317.out 5
     have hfz30_6 := blk_frozen BK317.out 6
     have hfz30_7 := blk_frozen BK317.out 7
     go_wp2_with (first | ((with_reducible refine gate_callee (f := 104) rfl ?_); refine goesL_ (some 20) rfl rfl Try.func104 (by kernel_rfl) rfl #[.int .i64 a0_3, .int .i64 1, .int .i64 1048576] rfl aA ?_; (with_reducible refine (backfillref11_within.calls a0_3 1 1048576 false _ A12.out).mono ?_); rintro e w' ⟨rfl, ⟨nd, rfl⟩⟩; refine ⟨_, rfl, ?_⟩))
     go_ret
     exact ⟨by first | rfl | (simp [errW_none, errW_some] <;> rfl) | (simp [*, errW_none, errW_some] <;> rfl), bA⟩
    ·replace c29 := Bool.eq_false_iff.mpr c29
     subst c29
     have H1 : (some false) = some r := by rw [if_neg (show ¬ (false = true) by decide)] at H; exact H
     clear H
     have H := H1
     clear H1
     obtain rfl := Option.some.inj H
     have hcz31_0 : wc.cell? ⟨gb317, 0, none⟩ = some (.int .i64 a0_0) := (blk_cell BK317.out 0).trans rfl
     have hcz31_1 : wc.cell? ⟨gb317, 1, none⟩ = some (.int .i64 a0_1) := (blk_cell BK317.out 1).trans rfl
     have hcz31_2 : wc.cell? ⟨gb317, 2, none⟩ = some (.int .i64 a0_2) := (blk_cell BK317.out 2).trans rfl
     have hcz31_3 : wc.cell? ⟨gb317, 3, none⟩ = some (.int .i64 a0_3) := (blk_cell BK317.out 3).trans rfl
     have hcz31_4 : wc.cell? ⟨gb317, 4, none⟩ = some (.int .i64 a0_4) := (blk_cell BK317.out 4).trans rfl
     have hcz31_5 : wc.cell? ⟨gb317, 5, none⟩ = some (.int .i64 a0_5) := (blk_cell BK317.out 5).trans rfl
     have hcz31_6 : wc.cell? ⟨gb317, 6, none⟩ = some (.int .i64 a0_6) := (blk_cell BK317.out 6).trans rfl
     have hcz31_7 : wc.cell? ⟨gb317, 7, none⟩ = some (.int .i64 a0_7) := (blk_cell BK317.out 7).trans rfl
     have hfz31_0 := blk_frozen BK317.out 0
     have hfz31_1 := blk_frozen BK317.out 1
     have hfz31_2 := blk_frozen BK317.out 2
     have hfz31_3 := blk_frozen BK317.out 3
     have hfz31_4 := blk_frozen BK317.out 4
     have hfz31_5 := blk_frozen BK317.out 5
     have hfz31_6 := blk_frozen BK317.out 6
     have hfz31_7 := blk_frozen BK317.out 7
     go_wp2_with (first | ((with_reducible refine gate_callee (f := 104) rfl ?_); refine goesL_ (some 20) rfl rfl Try.func104 (by kernel_rfl) rfl #[.int .i64 a0_3, .int .i64 1, .int .i64 1048576] rfl aA ?_; (with_reducible refine (backfillref11_within.calls a0_3 1 1048576 false _ A12.out).mono ?_); rintro e w' ⟨rfl, ⟨nd, rfl⟩⟩; refine ⟨_, rfl, ?_⟩))
     go_ret
     exact ⟨by first | rfl | (simp [errW_none, errW_some] <;> rfl) | (simp [*, errW_none, errW_some] <;> rfl), bA⟩

/-! ### backfillref11_lead: function 81 -/
def backfillref11_lead.f (a0_0 : Int) (a0_1 : Int) (a0_2 : Int) (a0_3 : Int) (a0_4 : Int) (a0_5 : Int) (a0_6 : Int) (a0_7 : Int) : Option (Int) := if a0_3 = 0 then (none) else (some (wrap64 (Int.tdiv (wrap64 (a0_4 + (wrap64 (a0_5 * a0_0)))) a0_3)))
set_option maxHeartbeats 8000000 in
set_option maxRecDepth 100000 in
theorem backfillref11_lead.calls (a0_0 : Int) (a0_1 : Int) (a0_2 : Int) (a0_3 : Int) (a0_4 : Int) (a0_5 : Int) (a0_6 : Int) (a0_7 : Int) (r : Int) (w : World) (h : backfillref11_lead.f a0_0 a0_1 a0_2 a0_3 a0_4 a0_5 a0_6 a0_7 = some r) :
  Calls Try.prog 81 #[.agg #[.int .i64 a0_0, .int .i64 a0_1, .int .i64 a0_2, .int .i64 a0_3, .int .i64 a0_4, .int .i64 a0_5, .int .i64 a0_6, .int .i64 a0_7]] w fun e w' => e = .returned (.int .i64 r) ∧ Below w.heap.size w w' := by
 have hu39 := Try.underlying39
 have HB := Aside0.mk (Below.refl w.heap.size w)
 have H : (if a0_3 = 0 then (none) else (some (wrap64 (Int.tdiv (wrap64 (a0_4 + (wrap64 (a0_5 * a0_0)))) a0_3)))) = some r := h
 clear h
 by_cases c2 : a0_3 = 0
 ·rw [if_pos c2] at H
  exact absurd H (by simp)
 ·rw [if_neg c2] at H
  have c2b0 : (a0_3 == 0) = false := beq_eq_false_iff_ne.mpr c2
  have c2b1 : (a0_3 != 0) = true := bne_iff_ne.mpr c2
  obtain rfl := Option.some.inj H
  go_enter Try.func81, Try.ntmps81
  go_wp2_with (first | ((with_reducible refine gate_dst (N := 1) rfl ?_); refine bxA 1 #[.int .i64 a0_0, .int .i64 a0_1, .int .i64 a0_2, .int .i64 a0_3, .int .i64 a0_4, .int .i64 a0_5, .int .i64 a0_6, .int .i64 a0_7] 39 ?_; intro gb326 hg w3 hbox hb; have n0_ := Aside0.mk (below_step bA hb); have n1_ := Aside0.mk (hbox); have n2_ := Aside0.mk (gwA hg bA); have n3_ := Aside0.mk (gwA hg bA); clear HB; have HB := n0_; have BK326 := n1_; have GW326 := n2_; have GE326 := n3_; clear n0_ n1_ n2_ n3_ hb hbox hg; have hcz4_0 : w3.cell? ⟨gb326, 0, none⟩ = some (.int .i64 a0_0) := (blk_cell BK326.out 0).trans rfl; have hcz4_1 : w3.cell? ⟨gb326, 1, none⟩ = some (.int .i64 a0_1) := (blk_cell BK326.out 1).trans rfl; have hcz4_2 : w3.cell? ⟨gb326, 2, none⟩ = some (.int .i64 a0_2) := (blk_cell BK326.out 2).trans rfl; have hcz4_3 : w3.cell? ⟨gb326, 3, none⟩ = some (.int .i64 a0_3) := (blk_cell BK326.out 3).trans rfl; have hcz4_4 : w3.cell? ⟨gb326, 4, none⟩ = some (.int .i64 a0_4) := (blk_cell BK326.out 4).trans rfl; have hcz4_5 : w3.cell? ⟨gb326, 5, none⟩ = some (.int .i64 a0_5) := (blk_cell BK326.out 5).trans rfl; have hcz4_6 : w3.cell? ⟨gb326, 6, none⟩ = some (.int .i64 a0_6) := (blk_cell BK326.out 6).trans rfl; have hcz4_7 : w3.cell? ⟨gb326, 7, none⟩ = some (.int .i64 a0_7) := (blk_cell BK326.out 7).trans rfl; have hfz4_0 := blk_frozen BK326.out 0; have hfz4_1 := blk_frozen BK326.out 1; have hfz4_2 := blk_frozen BK326.out 2; have hfz4_3 := blk_frozen BK326.out 3; have hfz4_4 := blk_frozen BK326.out 4; have hfz4_5 := blk_frozen BK326.out 5; have hfz4_6 := blk_frozen BK326.out 6; have hfz4_7 := blk_frozen BK326.out 7))
  go_ret
  exact ⟨by first | rfl | (simp [errW_none, errW_some] <;> rfl) | (simp [*, errW_none, errW_some] <;> rfl), bA⟩

/-! ### backfillref11_bound: function 79 -/
def backfillref11_bound.f (a0_0 : Int) (a0_1 : Int) (a0_2 : Int) (a0_3 : Int) (a0_4 : Int) (a0_5 : Int) (a0_6 : Int) (a0_7 : Int) : Option (Int) := (backfillref11_lead.f a0_0 a0_1 a0_2 a0_3 a0_4 a0_5 a0_6 a0_7).bind fun t328 => (some (wrap64 ((wrap64 (t328 + 1)) + (wrap64 (a0_1 * a0_2)))))
def backfillref11_bound.T1 : Bool × List (List Nat × List Nat) := (true, [([], []), ([0], [0]), ([1], [1]), ([], []), ([3], [3]), ([], []), ([5], [5]), ([4, 6], [4, 6]), ([2, 7], [2, 7]), ([8, 1, 0, 1, 2, 3, 4, 5, 6, 7, 8], [8])])
def backfillref11_bound.B1 : List Nat := [0, 1, 3, 0, 8, 0, 32, 120, 255, 511]
theorem backfillref11_bound.tab1 : rtab .any (opsOf Try.f79 1) = backfillref11_bound.T1 := by kernel_rfl
theorem backfillref11_bound.bits1 : waitsOk backfillref11_bound.T1.2 backfillref11_bound.B1 = true := by kernel_rfl
set_option maxHeartbeats 8000000 in
set_option maxRecDepth 100000 in
theorem backfillref11_bound.calls (a0_0 : Int) (a0_1 : Int) (a0_2 : Int) (a0_3 : Int) (a0_4 : Int) (a0_5 : Int) (a0_6 : Int) (a0_7 : Int) (r : Int) (w : World) (h : backfillref11_bound.f a0_0 a0_1 a0_2 a0_3 a0_4 a0_5 a0_6 a0_7 = some r) :
  Calls Try.prog 79 #[.agg #[.int .i64 a0_0, .int .i64 a0_1, .int .i64 a0_2, .int .i64 a0_3, .int .i64 a0_4, .int .i64 a0_5, .int .i64 a0_6, .int .i64 a0_7]] w fun e w' => e = .returned (.int .i64 r) ∧ Below w.heap.size w w' := by
 have hu39 := Try.underlying39
 have HB := Aside0.mk (Below.refl w.heap.size w)
 have H : ((backfillref11_lead.f a0_0 a0_1 a0_2 a0_3 a0_4 a0_5 a0_6 a0_7).bind fun t328 => (some (wrap64 ((wrap64 (t328 + 1)) + (wrap64 (a0_1 * a0_2)))))) = some r := h
 clear h; replace H := Option.bind_eq_some_iff.mp H; obtain ⟨t328, A20, H⟩ := H; replace H : (some (wrap64 ((wrap64 (t328 + 1)) + (wrap64 (a0_1 * a0_2))))) = some r := H; have A2 := Aside0.mk A20; clear A20
 obtain rfl := Option.some.inj H
 go_enter Try.func79, Try.ntmps79
 try go_wp2_with (first | ((with_reducible refine gate_dst (N := 1) rfl ?_); refine bxA 1 #[.int .i64 a0_0, .int .i64 a0_1, .int .i64 a0_2, .int .i64 a0_3, .int .i64 a0_4, .int .i64 a0_5, .int .i64 a0_6, .int .i64 a0_7] 39 ?_; intro gb327 hg w3 hbox hb; have n0_ := Aside0.mk (below_step bA hb); have n1_ := Aside0.mk (hbox); have n2_ := Aside0.mk (gwA hg bA); have n3_ := Aside0.mk (gwA hg bA); clear HB; have HB := n0_; have BK327 := n1_; have GW327 := n2_; have GE327 := n3_; clear n0_ n1_ n2_ n3_ hb hbox hg))
 have n0_ := Aside0.mk (blk_drew BK327.out); have n1_ := Aside0.mk (below_drew1 HB.out); clear BK327 HB; have BK327 := n0_; have HB := n1_; clear n0_ n1_
 refine start_ (n := 10) (S := fun w' => w'.cell? ⟨gb327, 0, none⟩ = some (.int .i64 a0_0) ∧ w'.cell? ⟨gb327, 1, none⟩ = some (.int .i64 a0_1) ∧ w'.cell? ⟨gb327, 2, none⟩ = some (.int .i64 a0_2) ∧ w'.cell? ⟨gb327, 3, none⟩ = some (.int .i64 a0_3) ∧ w'.cell? ⟨gb327, 4, none⟩ = some (.int .i64 a0_4) ∧ w'.cell? ⟨gb327, 5, none⟩ = some (.int .i64 a0_5) ∧ w'.cell? ⟨gb327, 6, none⟩ = some (.int .i64 a0_6) ∧ w'.cell? ⟨gb327, 7, none⟩ = some (.int .i64 a0_7)) (ds := []) #[false, false, false, false, false, false, false, false, false, false] (by kernel_rfl) rfl rfl ⟨(blk_cell BK327.out 0).trans rfl, (blk_cell BK327.out 1).trans rfl, (blk_cell BK327.out 2).trans rfl, (blk_cell BK327.out 3).trans rfl, (blk_cell BK327.out 4).trans rfl, (blk_cell BK327.out 5).trans rfl, (blk_cell BK327.out 6).trans rfl, (blk_cell BK327.out 7).trans rfl⟩ (fun hHeld => ?_); refine with_tabW backfillref11_bound.tab1 backfillref11_bound.bits1 (fun HT_ HW_ => ?_)
 generalize w3.drew = w4 at BK327 HB hHeld ⊢
 refine pure_ (i := 3) (N := some 6) (v := ?_) (a' := ?_) #[false, false, false, true, false, false, false, false, false, false] rfl rfl (any_of HT_.out (by kernel_rfl)) (fun _ _ _ h => h) (Or.inl ⟨by rfl, ?_⟩) ?_ ?_
 rotate_left
 ·intro w'
  go_simp; with_reducible rfl
 rotate_left
 ·simp only [Act.put, List.setIfInBounds_toArray, List.set_cons_zero, List.set_cons_succ, i64_w, i32_w]
  rfl
 refine pure_ (i := 5) (N := some 8) (v := ?_) (a' := ?_) #[false, false, false, true, false, true, false, false, false, false] rfl rfl (any_of HT_.out (by kernel_rfl)) (fun _ _ _ h => h) (Or.inl ⟨by rfl, ?_⟩) ?_ ?_
 rotate_left
 ·intro w'
  go_simp; with_reducible rfl
 rotate_left
 ·simp only [Act.put, List.setIfInBounds_toArray, List.set_cons_zero, List.set_cons_succ, i64_w, i32_w]
  rfl
 refine take_ (i := 0) (N := some 3) (v := ?_) (a' := ?_) #[true, false, false, true, false, true, false, false, false, false] rfl rfl (take_ofW HT_.out HW_.out (by kernel_rfl)) (fun _ _ _ h => h) (Or.inl ⟨by rfl, ?_⟩) hHeld ?_ ?_
 rotate_left
 ·rintro w' ⟨s0, s1, s2, s3, s4, s5, s6, s7⟩
  go_simp; with_reducible rfl
 rotate_left
 ·simp only [Act.put, List.setIfInBounds_toArray, List.set_cons_zero, List.set_cons_succ, i64_w, i32_w]
  rfl
 refine take_ (i := 4) (N := some 7) (v := ?_) (a' := ?_) #[true, false, false, true, true, true, false, false, false, false] rfl rfl (take_ofW HT_.out HW_.out (by kernel_rfl)) (fun _ _ _ h => h) (Or.inl ⟨by rfl, ?_⟩) hHeld ?_ ?_
 rotate_left
 ·rintro w' ⟨s0, s1, s2, s3, s4, s5, s6, s7⟩
  go_simp; with_reducible rfl
 rotate_left
 ·simp only [Act.put, List.setIfInBounds_toArray, List.set_cons_zero, List.set_cons_succ, i64_w, i32_w]
  rfl
 refine take_ (i := 6) (N := some 9) (v := ?_) (a' := ?_) #[true, false, false, true, true, true, true, false, false, false] rfl rfl (take_ofW HT_.out HW_.out (by kernel_rfl)) (fun _ _ _ h => h) (Or.inl ⟨by rfl, ?_⟩) hHeld ?_ ?_
 rotate_left
 ·rintro w' ⟨s0, s1, s2, s3, s4, s5, s6, s7⟩
  go_simp; with_reducible rfl
 rotate_left
 ·simp only [Act.put, List.setIfInBounds_toArray, List.set_cons_zero, List.set_cons_succ, i64_w, i32_w]
  rfl
 refine pure_ (i := 7) (N := some 10) (v := ?_) (a' := ?_) #[true, false, false, true, true, true, true, true, false, false] rfl rfl (any_of HT_.out (by kernel_rfl)) (fun _ _ _ h => h) (Or.inl ⟨by rfl, ?_⟩) ?_ ?_
 rotate_left
 ·intro w'
  go_simp; with_reducible rfl
 rotate_left
 ·simp only [Act.put, List.setIfInBounds_toArray, List.set_cons_zero, List.set_cons_succ, i64_w, i32_w]
  rfl
 refine one_ (i := 1) (N := some 4) #[true, true, false, true, true, true, true, true, false, false] rfl rfl (one_of HT_.out (by kernel_rfl)) (by decide) (fun K hK => ?_)
 refine goes_ Try.func81 (by kernel_rfl) rfl #[.agg #[.int .i64 a0_0, .int .i64 a0_1, .int .i64 a0_2, .int .i64 a0_3, .int .i64 a0_4, .int .i64 a0_5, .int .i64 a0_6, .int .i64 a0_7]] (by rfl) rfl rfl aA ?_
 with_reducible refine (backfillref11_lead.calls a0_0 a0_1 a0_2 a0_3 a0_4 a0_5 a0_6 a0_7 t328 _ A2.out).mono ?_
 rintro e w5 ⟨rfl, hb⟩
 refine ⟨_, rfl, ?_⟩; have n0_ := Aside0.mk (blk_below (g := gb327) kA hb); have n1_ := Aside0.mk (below_step bA hb); clear BK327 HB; have BK327 := n0_; have HB := n1_; clear n0_ n1_; (try clear hb)
 refine hK.out _ _ ⟨(blk_cell BK327.out 0).trans rfl, (blk_cell BK327.out 1).trans rfl, (blk_cell BK327.out 2).trans rfl, (blk_cell BK327.out 3).trans rfl, (blk_cell BK327.out 4).trans rfl, (blk_cell BK327.out 5).trans rfl, (blk_cell BK327.out 6).trans rfl, (blk_cell BK327.out 7).trans rfl⟩ (fun hHeld => ?_)
 clear hK K
 refine norm_ (a' := ?_) ?_ ?_
 rotate_left
 ·show Act.put _ (some 4) _ = _
  simp only [Act.put, List.setIfInBounds_toArray, List.set_cons_zero, List.set_cons_succ, i64_w, i32_w]
  rfl
 refine pure_ (i := 2) (N := some 5) (v := ?_) (a' := ?_) #[true, true, true, true, true, true, true, true, false, false] rfl rfl (any_of HT_.out (by kernel_rfl)) (fun _ _ _ h => h) (Or.inl ⟨by rfl, ?_⟩) ?_ ?_
 rotate_left
 ·intro w'
  go_simp; with_reducible rfl
 rotate_left
 ·simp only [Act.put, List.setIfInBounds_toArray, List.set_cons_zero, List.set_cons_succ, i64_w, i32_w]
  rfl
 refine pure_ (i := 8) (N := some 11) (v := ?_) (a' := ?_) #[true, true, true, true, true, true, true, true, true, false] rfl rfl (any_of HT_.out (by kernel_rfl)) (fun _ _ _ h => h) (Or.inl ⟨by rfl, ?_⟩) ?_ ?_
 rotate_left
 ·intro w'
  go_simp; with_reducible rfl
 rotate_left
 ·simp only [Act.put, List.setIfInBounds_toArray, List.set_cons_zero, List.set_cons_succ, i64_w, i32_w]
  rfl
 refine pure_ (i := 9) (N := some 2) (v := ?_) (a' := ?_) #[true, true, true, true, true, true, true, true, true, true] rfl rfl (any_of HT_.out (by kernel_rfl)) (fun _ _ _ h => h) (Or.inl ⟨by rfl, ?_⟩) ?_ ?_
 rotate_left
 ·intro w'
  go_simp; with_reducible rfl
 rotate_left
 ·simp only [Act.put, List.setIfInBounds_toArray, List.set_cons_zero, List.set_cons_succ, i64_w, i32_w]
  rfl
 refine done_ (done_of HT_.out (by kernel_rfl)) ?_
 try go_wp2
 go_ret
 exact ⟨by first | rfl | (simp [errW_none, errW_some] <;> rfl) | (simp [*, errW_none, errW_some] <;> rfl), bA⟩

end Go.Proofs.Ytcolhngdhlamkaa.GCT
