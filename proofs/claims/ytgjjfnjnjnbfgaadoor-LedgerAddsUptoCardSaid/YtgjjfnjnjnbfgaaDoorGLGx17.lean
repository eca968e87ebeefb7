-- Laid by a program of this session (wip/tools/pr.py): contracts and pure functions; Lean checks it.
import Derived.Test.YtgjjfnjnjnbfgaaDoorGLGx0
import Derived.Test.YtgjjfnjnjnbfgaaDoorGLGx11
import Derived.Test.YtgjjfnjnjnbfgaaDoorGLGx15
import Derived.Test.YtgjjfnjnjnbfgaaDoorGLGx16
namespace Go.Proofs.YtgjjfnjnjnbfgaaDoor.GLG
open Go.RowKit Go.Proofs.YtgjjfnjnjnbfgaaDoorW.PrintWords Go.Proofs.YtgjjfnjnjnbfgaaDoorW.PrintLast Go.Proofs.YtgjjfnjnjnbfgaaDoorW.PrintMore
attribute [local go_sem] max2_int min2_int max_two min_two max_three min_three max_four min_four   -- for this text's walks alone
set_option linter.unusedVariables false
set_option linter.unusedSimpArgs false

/-! ### backfillref04_quotient: function 98 -/
def backfillref04_quotient.j0 : Nat → Bool → Int → Int → Option (Int × Bool)
 | 0, _, _, _ => none
 | k + 1, x24, x404000, x404001 => if x24 = true then ((backfillref04_up.f x404000 x404001).bind fun bt404 => ((backfillref04_small.f bt404.1 bt404.2).bind fun bt406 => (some (bt406.1, bt406.2)))) else ((backfillref04_small.f x404000 x404001).bind fun bt408 => (some (bt408.1, bt408.2)))
def backfillref04_quotient.f (k : Nat) (a0_0 : Int) (a0_1 : Int) (a1 : Int) (a2 : Bool) : Option (Int × Bool) := (backfillref01_Div.f k a0_0 a0_1 a1).bind fun bt399 => (if bt399.2.2.2 = true then (if a2 = true then (backfillref04_quotient.j0 k (decide (bt399.2.2.1 > 0)) bt399.1 bt399.2.1) else (backfillref04_quotient.j0 k false bt399.1 bt399.2.1)) else (some (18446744073709551615, false)))
theorem backfillref04_quotient.mono_l : ∀ k, (∀ y0 y1 y2, LeO (backfillref04_quotient.j0 k y0 y1 y2) (backfillref04_quotient.j0 (k + 1) y0 y1 y2))
 | 0 => fun _ _ _ r h => by simp [backfillref04_quotient.j0] at h
 | k + 1 => by
  have ih0 := backfillref04_quotient.mono_l k
  ·intro y0 y1 y2
   unfold backfillref04_quotient.j0
   repeat' first
   | (with_reducible exact ih0 _ _ _)
   | (with_reducible exact backfillref01_Div.mono _ _ _ _)
   | (with_reducible exact LeO.refl _)
   | (with_reducible exact LeO.none _)
   | (with_reducible refine LeO.ite ?_ ?_)
   | (with_reducible refine LeO.bind ?_ (fun _ => ?_))
   | exact ih0 _ _ _
   | exact backfillref01_Div.mono _ _ _ _
   | exact LeO.none _
   | refine LeO.ite ?_ ?_
   | refine LeO.bind ?_ (fun _ => ?_)
theorem backfillref04_quotient.mono : ∀ a0 a1 a2 a3 k, LeO (backfillref04_quotient.f k a0 a1 a2 a3) (backfillref04_quotient.f (k + 1) a0 a1 a2 a3) := by
 intro a0 a1 a2 a3 k
 have ih0 := backfillref04_quotient.mono_l k
 unfold backfillref04_quotient.f
 repeat' first
   | (with_reducible exact ih0 _ _ _)
   | (with_reducible exact backfillref01_Div.mono _ _ _ _)
   | (with_reducible exact LeO.refl _)
   | (with_reducible exact LeO.none _)
   | (with_reducible refine LeO.ite ?_ ?_)
   | (with_reducible refine LeO.bind ?_ (fun _ => ?_))
   | exact ih0 _ _ _
   | exact backfillref01_Div.mono _ _ _ _
   | exact LeO.none _
   | refine LeO.ite ?_ ?_
   | refine LeO.bind ?_ (fun _ => ?_)
set_option maxHeartbeats 8000000 in
set_option maxRecDepth 100000 in
theorem backfillref04_quotient.calls (k : Nat) (a0_0 : Int) (a0_1 : Int) (a1 : Int) (a2 : Bool) (r1 : Int) (r2 : Bool) (w : World) (h : backfillref04_quotient.f k a0_0 a0_1 a1 a2 = some (r1, r2)) :
  Calls Tryd.prog 98 #[.agg #[.int .u64 a0_0, .int .u64 a0_1], .int .u64 a1, .bool a2] w fun e w' => e = .returned (.tuple #[.int .u64 r1, .bool r2]) ∧ Below w.heap.size w w' := by
 have hu94 := Tryd.underlying94
 have HB := Aside0.mk (Below.refl w.heap.size w)
 have H : ((backfillref01_Div.f k a0_0 a0_1 a1).bind fun bt399 => (if bt399.2.2.2 = true then (if a2 = true then (backfillref04_quotient.j0 k (decide (bt399.2.2.1 > 0)) bt399.1 bt399.2.1) else (backfillref04_quotient.j0 k false bt399.1 bt399.2.1)) else (some (18446744073709551615, false)))) = some (r1, r2) := h
 clear h; replace H := Option.bind_eq_some_iff.mp H; obtain ⟨⟨t399, t400, t401, t402⟩, A40, H⟩ := H; replace H : (if t402 = true then (if a2 = true then (backfillref04_quotient.j0 k (decide (t401 > 0)) t399 t400) else (backfillref04_quotient.j0 k false t399 t400)) else (some (18446744073709551615, false))) = some (r1, r2) := H; have A4 := Aside0.mk A40; clear A40
 by_cases c5 : t402 = true
 ·subst c5
  have H1 : (if a2 = true then (backfillref04_quotient.j0 k (decide (t401 > 0)) t399 t400) else (backfillref04_quotient.j0 k false t399 t400)) = some (r1, r2) := by rw [if_pos rfl] at H; exact H
  clear H
  have H := H1
  clear H1
  have HC6 := Aside0.mk H
  clear H
  go_enter Tryd.func98, Tryd.ntmps98
  go_upto_region 4 with (first | ((with_reducible refine gate_dst (N := 3) rfl ?_); refine bxA 3 #[.int .u64 a0_0, .int .u64 a0_1] 94 ?_; intro gb398 hg w7 hbox hb; have n0_ := Aside0.mk (below_step bA hb); have n1_ := Aside0.mk (hbox); have n2_ := Aside0.mk (gwA hg bA); have n3_ := Aside0.mk (gwA hg bA); clear HB; have HB := n0_; have BK398 := n1_; have GW398 := n2_; have GE398 := n3_; clear n0_ n1_ n2_ n3_ hb hbox hg; have hcz8_0 : w7.cell? ⟨gb398, 0, none⟩ = some (.int .u64 a0_0) := (blk_cell BK398.out 0).trans rfl; have hcz8_1 : w7.cell? ⟨gb398, 1, none⟩ = some (.int .u64 a0_1) := (blk_cell BK398.out 1).trans rfl; have hfz8_0 := blk_frozen BK398.out 0; have hfz8_1 := blk_frozen BK398.out 1) | ((with_reducible refine gate_callee (f := 100) rfl ?_); refine goesL_ (some 14) rfl rfl Tryd.func100 (by kernel_rfl) rfl #[.agg #[.int .u64 a0_0, .int .u64 a0_1], .int .u64 a1] rfl aA ?_; (with_reducible refine (backfillref01_Div.calls k a0_0 a0_1 a1 t399 t400 t401 true _ A4.out).mono ?_); rintro e w9 ⟨rfl, hb⟩; refine ⟨_, rfl, ?_⟩; have n0_ := Aside0.mk (blk_below (g := gb398) kA hb); have n1_ := Aside0.mk (below_step bA hb); clear BK398 HB; have BK398 := n0_; have HB := n1_; clear n0_ n1_; (try clear hb)) | ((with_reducible refine gate_dst (N := 8) rfl ?_); refine bxA 8 #[.int .u64 0, .int .u64 0] 94 ?_; intro gb403 hg w10 hbox hb; have n0_ := Aside0.mk (blk_below (g := gb398) kA hb); have n1_ := Aside0.mk (below_step bA hb); have n2_ := Aside0.mk (hbox); have n3_ := Aside0.mk (gwA hg bA); have n4_ := Aside0.mk (gwA hg bA); have n5_ := Aside0.mk (neA (g := gb398) hg kA); have n6_ := Aside0.mk (neB (g := gb398) hg kA); clear BK398 HB; have BK398 := n0_; have HB := n1_; have BK403 := n2_; have GW403 := n3_; have GE403 := n4_; have NB398_403 := n5_; have NB403_398 := n6_; clear n0_ n1_ n2_ n3_ n4_ n5_ n6_ hb hbox hg; have hnb11 := NB403_398.out; have hnc11 := NB398_403.out; have hcz12_0 : w10.cell? ⟨gb403, 0, none⟩ = some (.int .u64 0) := (blk_cell BK403.out 0).trans rfl; have hcz12_1 : w10.cell? ⟨gb403, 1, none⟩ = some (.int .u64 0) := (blk_cell BK403.out 1).trans rfl; have hfz12_0 := blk_frozen BK403.out 0; have hfz12_1 := blk_frozen BK403.out 1))
  (try simp only [Act.put, List.setIfInBounds_toArray, List.set_cons_zero, List.set_cons_succ])
  go_cut [24] (fun v24 wc => ∃ (kq : Nat) (x24_5 : Bool), v24 = .bool x24_5 ∧ Aside0 (backfillref04_quotient.j0 kq x24_5 t399 t400 = some (r1, r2)) ∧ Aside0 (kq ≤ k) ∧ Aside0 (wc.heap[gb398]? = some (.cells #[.int .u64 a0_0, .int .u64 a0_1] 94 (0, 0))) ∧ Aside0 (wc.heap[gb403]? = some (.cells #[.int .u64 t399, .int .u64 t400] 94 (0, 0))) ∧ Aside0 (Below w.heap.size w wc))
  case first =>
   have H := HC6.out
   clear HC6
   by_cases c13 : a2 = true
   ·subst c13
    have H1 : (backfillref04_quotient.j0 k (decide (t401 > 0)) t399 t400) = some (r1, r2) := by rw [if_pos rfl] at H; exact H
    clear H
    have H := H1
    clear H1
    have H' := Aside0.mk H
    clear H
    go_wp2
    go_meet
    case rel => exact ⟨_, (decide (t401 > 0)), (by first | rfl | (simp; done) | (simp [*]; done)), H', ⟨by first | omega | exact Nat.le_refl _⟩, ⟨by (with_reducible repeat (first | refine blk_drewN ?_ _ | refine blk_drew ?_ | refine blk_alloc ?_ _)); refine blk_far ?_ NB398_403.out _; (with_reducible repeat (first | refine blk_drewN ?_ _ | refine blk_drew ?_ | refine blk_alloc ?_ _)); refine blk_far ?_ NB398_403.out _; exact kA⟩, ⟨by (with_reducible repeat (first | refine blk_drewN ?_ _ | refine blk_drew ?_ | refine blk_alloc ?_ _)); refine blk_put (cs := #[.int .u64 t399, .int .u64 0]) ?_ 1 _ rfl; (with_reducible repeat (first | refine blk_drewN ?_ _ | refine blk_drew ?_ | refine blk_alloc ?_ _)); refine blk_put (cs := #[.int .u64 0, .int .u64 0]) ?_ 0 _ rfl; exact kA⟩, ⟨bA⟩⟩
   ·replace c13 := Bool.eq_false_iff.mpr c13
    subst c13
    have H1 : (backfillref04_quotient.j0 k false t399 t400) = some (r1, r2) := by rw [if_neg (show ¬ (false = true) by decide)] at H; exact H
    clear H
    have H := H1
    clear H1
    have H' := Aside0.mk H
    clear H
    go_wp2
    go_meet
    case rel => exact ⟨_, (false), (by first | rfl | (simp; done) | (simp [*]; done)), H', ⟨by first | omega | exact Nat.le_refl _⟩, ⟨by (with_reducible repeat (first | refine blk_drewN ?_ _ | refine blk_drew ?_ | refine blk_alloc ?_ _)); refine blk_far ?_ NB398_403.out _; (with_reducible repeat (first | refine blk_drewN ?_ _ | refine blk_drew ?_ | refine blk_alloc ?_ _)); refine blk_far ?_ NB398_403.out _; exact kA⟩, ⟨by (with_reducible repeat (first | refine blk_drewN ?_ _ | refine blk_drew ?_ | refine blk_alloc ?_ _)); refine blk_put (cs := #[.int .u64 t399, .int .u64 0]) ?_ 1 _ rfl; (with_reducible repeat (first | refine blk_drewN ?_ _ | refine blk_drew ?_ | refine blk_alloc ?_ _)); refine blk_put (cs := #[.int .u64 0, .int .u64 0]) ?_ 0 _ rfl; exact kA⟩, ⟨bA⟩⟩
  case rest =>
   clear HC6
   try clear c1
   try clear p2
   try clear c5
   try clear c9
   try clear c10
   try clear c11
   try clear c13
   try clear hcz12_0
   try clear hcz12_1
   try clear hcz8_0
   try clear hcz8_1
   try clear hfz12_0
   try clear hfz12_1
   try clear hfz8_0
   try clear hfz8_1
   obtain ⟨kq, x24_5, rfl, HA, HJ5, BK398, BK403, HB⟩ := hcut
   cases kq with
   | zero => exact absurd HA.out (by simp [backfillref04_quotient.j0])
   | succ kj5 =>
    have H := HA.out
    clear HA
    simp only [backfillref04_quotient.j0] at H
    by_cases c14 : x24_5 = true
    ·subst c14
     have H1 : ((backfillref04_up.f t399 t400).bind fun bt404 => ((backfillref04_small.f bt404.1 bt404.2).bind fun bt406 => (some (bt406.1, bt406.2)))) = some (r1, r2) := by rw [if_pos rfl] at H; exact H
     clear H
     have H := H1
     clear H1; replace H := Option.bind_eq_some_iff.mp H; obtain ⟨⟨t404, t405⟩, A150, H⟩ := H; replace H : ((backfillref04_small.f t404 t405).bind fun bt406 => (some (bt406.1, bt406.2))) = some (r1, r2) := H; have A15 := Aside0.mk A150; clear A150; replace H := Option.bind_eq_some_iff.mp H; obtain ⟨⟨t406, t407⟩, A160, H⟩ := H; replace H : (some (t406, t407)) = some (r1, r2) := H; have A16 := Aside0.mk A160; clear A160
     simp only [Option.some.injEq, Prod.mk.injEq] at H
     obtain ⟨rfl, rfl⟩ := H
     have hnb17 := NB403_398.out
     have hnc17 := NB398_403.out
     have hcz18_0 : wc.cell? ⟨gb403, 0, none⟩ = some (.int .u64 t399) := (blk_cell BK403.out 0).trans rfl
     have hcz18_1 : wc.cell? ⟨gb403, 1, none⟩ = some (.int .u64 t400) := (blk_cell BK403.out 1).trans rfl
     have hfz18_0 := blk_frozen BK403.out 0
     have hfz18_1 := blk_frozen BK403.out 1
     go_wp2_with (first | ((with_reducible refine gate_callee (f := 101) rfl ?_); refine goesL_ (some 26) rfl rfl Tryd.func101 (by kernel_rfl) rfl #[.agg #[.int .u64 t399, .int .u64 t400]] rfl aA ?_; (with_reducible refine (backfillref04_up.calls t399 t400 t404 t405 _ A15.out).mono ?_); rintro e w19 ⟨rfl, hb⟩; refine ⟨_, rfl, ?_⟩; have n0_ := Aside0.mk (blk_below (g := gb398) kA hb); have n1_ := Aside0.mk (blk_below (g := gb403) kA hb); have n2_ := Aside0.mk (below_step bA hb); clear BK398 BK403 HB; have BK398 := n0_; have BK403 := n1_; have HB := n2_; clear n0_ n1_ n2_; (try clear hb); have hcz20_0 : w19.cell? ⟨gb403, 0, none⟩ = some (.int .u64 t399) := (blk_cell BK403.out 0).trans rfl; have hcz20_1 : w19.cell? ⟨gb403, 1, none⟩ = some (.int .u64 t400) := (blk_cell BK403.out 1).trans rfl; have hfz20_0 := blk_frozen BK403.out 0; have hfz20_1 := blk_frozen BK403.out 1) | ((with_reducible refine gate_callee (f := 97) rfl ?_); refine goesL_ (some 28) rfl rfl Tryd.func97 (by kernel_rfl) rfl #[.agg #[.int .u64 t404, .int .u64 t405]] rfl aA ?_; (with_reducible refine (backfillref04_small.calls t404 t405 t406 t407 _ A16.out).mono ?_); rintro e w21 ⟨rfl, hb⟩; refine ⟨_, rfl, ?_⟩; have n0_ := Aside0.mk (blk_below (g := gb398) (o := .cells #[.int .u64 a0_0, .int .u64 a0_1] 94 (0, 0)) (by (with_reducible repeat (first | refine blk_drewN ?_ _ | refine blk_drew ?_ | refine blk_alloc ?_ _)); refine blk_far ?_ NB398_403.out _; (with_reducible repeat (first | refine blk_drewN ?_ _ | refine blk_drew ?_ | refine blk_alloc ?_ _)); refine blk_far ?_ NB398_403.out _; exact kA) hb); have n1_ := Aside0.mk (blk_below (g := gb403) (o := .cells #[.int .u64 t404, .int .u64 t405] 94 (0, 0)) (by (with_reducible repeat (first | refine blk_drewN ?_ _ | refine blk_drew ?_ | refine blk_alloc ?_ _)); refine blk_put (cs := #[.int .u64 t404, .int .u64 t400]) ?_ 1 _ rfl; (with_reducible repeat (first | refine blk_drewN ?_ _ | refine blk_drew ?_ | refine blk_alloc ?_ _)); refine blk_put (cs := #[.int .u64 t399, .int .u64 t400]) ?_ 0 _ rfl; exact kA) hb); have n2_ := Aside0.mk (below_step bA hb); clear BK398 BK403 HB; have BK398 := n0_; have BK403 := n1_; have HB := n2_; clear n0_ n1_ n2_; (try clear hb)))
     go_ret2
     exact ⟨by first | rfl | (simp [errW_none, errW_some] <;> rfl) | (simp [*, errW_none, errW_some] <;> rfl), bA⟩
    ·replace c14 := Bool.eq_false_iff.mpr c14
     subst c14
     have H1 : ((backfillref04_small.f t399 t400).bind fun bt408 => (some (bt408.1, bt408.2))) = some (r1, r2) := by rw [if_neg (show ¬ (false = true) by decide)] at H; exact H
     clear H
     have H := H1
     clear H1; replace H := Option.bind_eq_some_iff.mp H; obtain ⟨⟨t408, t409⟩, A220, H⟩ := H; replace H : (some (t408, t409)) = some (r1, r2) := H; have A22 := Aside0.mk A220; clear A220
     simp only [Option.some.injEq, Prod.mk.injEq] at H
     obtain ⟨rfl, rfl⟩ := H
     have hnb23 := NB403_398.out
     have hnc23 := NB398_403.out
     have hcz24_0 : wc.cell? ⟨gb403, 0, none⟩ = some (.int .u64 t399) := (blk_cell BK403.out 0).trans rfl
     have hcz24_1 : wc.cell? ⟨gb403, 1, none⟩ = some (.int .u64 t400) := (blk_cell BK403.out 1).trans rfl
     have hfz24_0 := blk_frozen BK403.out 0
     have hfz24_1 := blk_frozen BK403.out 1
     go_wp2_with (first | ((with_reducible refine gate_callee (f := 97) rfl ?_); refine goesL_ (some 28) rfl rfl Tryd.func97 (by kernel_rfl) rfl #[.agg #[.int .u64 t399, .int .u64 t400]] rfl aA ?_; (with_reducible refine (backfillref04_small.calls t399 t400 t408 t409 _ A22.out).mono ?_); rintro e w25 ⟨rfl, hb⟩; refine ⟨_, rfl, ?_⟩; have n0_ := Aside0.mk (blk_below (g := gb398) kA hb); have n1_ := Aside0.mk (blk_below (g := gb403) kA hb); have n2_ := Aside0.mk (below_step bA hb); clear BK398 BK403 HB; have BK398 := n0_; have BK403 := n1_; have HB := n2_; clear n0_ n1_ n2_; (try clear hb)))
     go_ret2
     exact ⟨by first | rfl | (simp [errW_none, errW_some] <;> rfl) | (simp [*, errW_none, errW_some] <;> rfl), bA⟩
 ·replace c5 := Bool.eq_false_iff.mpr c5
  subst c5
  have H1 : (some (18446744073709551615, false)) = some (r1, r2) := by rw [if_neg (show ¬ (false = true) by decide)] at H; exact H
  clear H
  have H := H1
  clear H1
  simp only [Option.some.injEq, Prod.mk.injEq] at H
  obtain ⟨rfl, rfl⟩ := H
  go_enter Tryd.func98, Tryd.ntmps98
  go_wp2_with (first | ((with_reducible refine gate_dst (N := 3) rfl ?_); refine bxA 3 #[.int .u64 a0_0, .int .u64 a0_1] 94 ?_; intro gb398 hg w26 hbox hb; have n0_ := Aside0.mk (below_step bA hb); have n1_ := Aside0.mk (hbox); have n2_ := Aside0.mk (gwA hg bA); have n3_ := Aside0.mk (gwA hg bA); clear HB; have HB := n0_; have BK398 := n1_; have GW398 := n2_; have GE398 := n3_; clear n0_ n1_ n2_ n3_ hb hbox hg; have hcz27_0 : w26.cell? ⟨gb398, 0, none⟩ = some (.int .u64 a0_0) := (blk_cell BK398.out 0).trans rfl; have hcz27_1 : w26.cell? ⟨gb398, 1, none⟩ = some (.int .u64 a0_1) := (blk_cell BK398.out 1).trans rfl; have hfz27_0 := blk_frozen BK398.out 0; have hfz27_1 := blk_frozen BK398.out 1) | ((with_reducible refine gate_callee (f := 100) rfl ?_); refine goesL_ (some 14) rfl rfl Tryd.func100 (by kernel_rfl) rfl #[.agg #[.int .u64 a0_0, .int .u64 a0_1], .int .u64 a1] rfl aA ?_; (with_reducible refine (backfillref01_Div.calls k a0_0 a0_1 a1 t399 t400 t401 false _ A4.out).mono ?_); rintro e w28 ⟨rfl, hb⟩; refine ⟨_, rfl, ?_⟩; have n0_ := Aside0.mk (blk_below (g := gb398) kA hb); have n1_ := Aside0.mk (below_step bA hb); clear BK398 HB; have BK398 := n0_; have HB := n1_; clear n0_ n1_; (try clear hb)) | ((with_reducible refine gate_dst (N := 8) rfl ?_); refine bxA 8 #[.int .u64 0, .int .u64 0] 94 ?_; intro gb403 hg w29 hbox hb; have n0_ := Aside0.mk (blk_below (g := gb398) kA hb); have n1_ := Aside0.mk (below_step bA hb); have n2_ := Aside0.mk (hbox); have n3_ := Aside0.mk (gwA hg bA); have n4_ := Aside0.mk (gwA hg bA); have n5_ := Aside0.mk (neA (g := gb398) hg kA); have n6_ := Aside0.mk (neB (g := gb398) hg kA); clear BK398 HB; have BK398 := n0_; have HB := n1_; have BK403 := n2_; have GW403 := n3_; have GE403 := n4_; have NB398_403 := n5_; have NB403_398 := n6_; clear n0_ n1_ n2_ n3_ n4_ n5_ n6_ hb hbox hg; have hnb30 := NB403_398.out; have hnc30 := NB398_403.out; have hcz31_0 : w29.cell? ⟨gb403, 0, none⟩ = some (.int .u64 0) := (blk_cell BK403.out 0).trans rfl; have hcz31_1 : w29.cell? ⟨gb403, 1, none⟩ = some (.int .u64 0) := (blk_cell BK403.out 1).trans rfl; have hfz31_0 := blk_frozen BK403.out 0; have hfz31_1 := blk_frozen BK403.out 1))
  go_ret2
  exact ⟨by first | rfl | (simp [errW_none, errW_some] <;> rfl) | (simp [*, errW_none, errW_some] <;> rfl), bA⟩

/-! ### backfillref04_Part: function 86 -/
def backfillref04_Part.f (k : Nat) (a0 : Int) (a1 : Int) : Option (Int) := if a1 > 9223372036854775808 then (some a0) else ((backfillref01_Mul.f a0 a1).bind fun bt410 => ((backfillref04_quotient.f k bt410.1 bt410.2 9223372036854775808 false).bind fun bt412 => (some bt412.1)))
theorem backfillref04_Part.mono : ∀ a0 a1 k, LeO (backfillref04_Part.f k a0 a1) (backfillref04_Part.f (k + 1) a0 a1) := by
 intro a0 a1 k
 unfold backfillref04_Part.f
 repeat' first
   | (with_reducible exact backfillref04_quotient.mono _ _ _ _ _)
   | (with_reducible exact LeO.refl _)
   | (with_reducible exact LeO.none _)
   | (with_reducible refine LeO.ite ?_ ?_)
   | (with_reducible refine LeO.bind ?_ (fun _ => ?_))
   | exact backfillref04_quotient.mono _ _ _ _ _
   | exact LeO.none _
   | refine LeO.ite ?_ ?_
   | refine LeO.bind ?_ (fun _ => ?_)
set_option maxHeartbeats 8000000 in
set_option maxRecDepth 100000 in
theorem backfillref04_Part.calls (k : Nat) (a0 : Int) (a1 : Int) (r : Int) (w : World) (h : backfillref04_Part.f k a0 a1 = some r) :
  Calls Tryd.prog 86 #[.int .u64 a0, .int .u64 a1] w fun e w' => e = .returned (.int .u64 r) ∧ Below w.heap.size w w' := by
 have HB := Aside0.mk (Below.refl w.heap.size w)
 have H : (if a1 > 9223372036854775808 then (some a0) else ((backfillref01_Mul.f a0 a1).bind fun bt410 => ((backfillref04_quotient.f k bt410.1 bt410.2 9223372036854775808 false).bind fun bt412 => (some bt412.1)))) = some r := h
 clear h
 by_cases c3 : a1 > 9223372036854775808
 ·rw [if_pos c3] at H
  have c3b0 : decide (9223372036854775808 < a1) = true := decide_eq_true c3
  clear c3
  obtain rfl := Option.some.inj H
  go_enter Tryd.func86, Tryd.ntmps86
  go_wp2
  go_ret
  exact ⟨by first | rfl | (simp [errW_none, errW_some] <;> rfl) | (simp [*, errW_none, errW_some] <;> rfl), bA⟩
 ·rw [if_neg c3] at H
  have c3b0 : decide (9223372036854775808 < a1) = false := decide_eq_false c3
  clear c3; replace H := Option.bind_eq_some_iff.mp H; obtain ⟨⟨t410, t411⟩, A40, H⟩ := H; replace H : ((backfillref04_quotient.f k t410 t411 9223372036854775808 false).bind fun bt412 => (some bt412.1)) = some r := H; have A4 := Aside0.mk A40; clear A40; replace H := Option.bind_eq_some_iff.mp H; obtain ⟨⟨t412, t413⟩, A50, H⟩ := H; replace H : (some t412) = some r := H; have A5 := Aside0.mk A50; clear A50
  obtain rfl := Option.some.inj H
  go_enter Tryd.func86, Tryd.ntmps86
  go_wp2_with (first | ((with_reducible refine gate_callee (f := 78) rfl ?_); refine goesL_ (some 13) rfl rfl Tryd.func78 (by kernel_rfl) rfl #[.int .u64 a0, .int .u64 a1] rfl aA ?_; (with_reducible refine (backfillref01_Mul.calls a0 a1 t410 t411 _ A4.out).mono ?_); rintro e w6 ⟨rfl, hb⟩; refine ⟨_, rfl, ?_⟩; have n0_ := Aside0.mk (below_step bA hb); clear HB; have HB := n0_; clear n0_; (try clear hb)) | ((with_reducible refine gate_callee (f := 98) rfl ?_); refine goesL_ (some 14) rfl rfl Tryd.func98 (by kernel_rfl) rfl #[.agg #[.int .u64 t410, .int .u64 t411], .int .u64 9223372036854775808, .bool false] rfl aA ?_; (with_reducible refine (backfillref04_quotient.calls k t410 t411 9223372036854775808 false t412 t413 _ A5.out).mono ?_); rintro e w7 ⟨rfl, hb⟩; refine ⟨_, rfl, ?_⟩; have n0_ := Aside0.mk (below_step bA hb); clear HB; have HB := n0_; clear n0_; (try clear hb)))
  go_ret
  exact ⟨by first | rfl | (simp [errW_none, errW_some] <;> rfl) | (simp [*, errW_none, errW_some] <;> rfl), bA⟩

/-! ### backfillref10_Fade: function 61 -/
def backfillref10_Fade.f (k : Nat) (a0 : Int) (a1 : Int) : Option (Int) := (backfillref04_Part.f k a0 a1).bind fun t414 => (some t414)
theorem backfillref10_Fade.mono : ∀ a0 a1 k, LeO (backfillref10_Fade.f k a0 a1) (backfillref10_Fade.f (k + 1) a0 a1) := by
 intro a0 a1 k
 unfold backfillref10_Fade.f
 repeat' first
   | (with_reducible exact backfillref04_Part.mono _ _ _)
   | (with_reducible exact LeO.refl _)
   | (with_reducible exact LeO.none _)
   | (with_reducible refine LeO.ite ?_ ?_)
   | (with_reducible refine LeO.bind ?_ (fun _ => ?_))
   | exact backfillref04_Part.mono _ _ _
   | exact LeO.none _
   | refine LeO.ite ?_ ?_
   | refine LeO.bind ?_ (fun _ => ?_)
set_option maxHeartbeats 8000000 in
set_option maxRecDepth 100000 in
theorem backfillref10_Fade.calls (k : Nat) (a0 : Int) (a1 : Int) (r : Int) (w : World) (h : backfillref10_Fade.f k a0 a1 = some r) :
  Calls Tryd.prog 61 #[.int .u64 a0, .int .u64 a1] w fun e w' => e = .returned (.int .u64 r) ∧ Below w.heap.size w w' := by
 have HB := Aside0.mk (Below.refl w.heap.size w)
 have H : ((backfillref04_Part.f k a0 a1).bind fun t414 => (some t414)) = some r := h
 clear h; replace H := Option.bind_eq_some_iff.mp H; obtain ⟨t414, A30, H⟩ := H; replace H : (some t414) = some r := H; have A3 := Aside0.mk A30; clear A30
 obtain rfl := Option.some.inj H
 go_enter Tryd.func61, Tryd.ntmps61
 go_wp2_with (first | ((with_reducible refine gate_callee (f := 86) rfl ?_); refine goesL_ (some 7) rfl rfl Tryd.func86 (by kernel_rfl) rfl #[.int .u64 a0, .int .u64 a1] rfl aA ?_; (with_reducible refine (backfillref04_Part.calls k a0 a1 t414 _ A3.out).mono ?_); rintro e w4 ⟨rfl, hb⟩; refine ⟨_, rfl, ?_⟩; have n0_ := Aside0.mk (below_step bA hb); clear HB; have HB := n0_; clear n0_; (try clear hb)))
 go_ret
 exact ⟨by first | rfl | (simp [errW_none, errW_some] <;> rfl) | (simp [*, errW_none, errW_some] <;> rfl), bA⟩

-- NOT PRINTED: function 37 (backfillref12_Ledger_Fade)

-- NOT PRINTED: function 15 (backfilllaw12_act)

-- NOT PRINTED: function 16 (backfilllaw12_same)

/-- A state of type 73 at block g of W; what its slices lead to came in by w0. -/
def IsS73 (w0 W : World) (g : Nat) (f0 : Int) (f1 : Int) (f2 : Int) (f3 : Int) (f4 : Int) (f5 : Int) (f6 : Int) (f7 : Int) (f8 : Int) (f9 : List Int) : Prop := ∃ A9 c9, W.heap[g]? = some (.cells #[.int .i64 f0, .int .i64 f1, .int .i64 f2, .int .i64 f3, .int .i64 f4, .int .i64 f5, .int .i64 f6, .int .i64 f7, .int .u64 f8, .slice A9 f9.length c9] 73 (0, 0)) ∧ w0.heap.size ≤ g ∧ Kd.C (Kd.int .u64) w0 A9 f9.length f9
theorem IsS73.grown {w0 W : World} {g : Nat} {f0 : Int} {f1 : Int} {f2 : Int} {f3 : Int} {f4 : Int} {f5 : Int} {f6 : Int} {f7 : Int} {f8 : Int} {f9 : List Int} {W1 : World} {row : Option Nat} (h : IsS73 w0 W g f0 f1 f2 f3 f4 f5 f6 f7 f8 f9) (hw : W.grownBy W1 row) (hne : some g ≠ row) : IsS73 w0 W1 g f0 f1 f2 f3 f4 f5 f6 f7 f8 f9 := by
 obtain ⟨A9, c9, hb, hg, hr9⟩ := h
 exact ⟨A9, c9, blk_grown hb hw hne, hg, hr9⟩
theorem IsS73.own_neN {w0 W : World} {g : Nat} {f0 : Int} {f1 : Int} {f2 : Int} {f3 : Int} {f4 : Int} {f5 : Int} {f6 : Int} {f7 : Int} {f8 : Int} {f9 : List Int} {α : Type} {d : Kd α} {e : Nat} {base : Nat} {ok : Nat → Prop} {v : Value} {xs : List α} (h : IsS73 w0 W g f0 f1 f2 f3 f4 f5 f6 f7 f8 f9) (ho : Kd.N d e W base ok v xs) (ht : e ≠ 73) : some g ≠ v.ownBlock := by
 obtain ⟨A9, c9, hb, hg, hr9⟩ := h
 exact Kd.N_ne ho hb ht
theorem IsS73.fresh {w0 W : World} {g : Nat} {f0 : Int} {f1 : Int} {f2 : Int} {f3 : Int} {f4 : Int} {f5 : Int} {f6 : Int} {f7 : Int} {f8 : Int} {f9 : List Int} (h : IsS73 w0 W g f0 f1 f2 f3 f4 f5 f6 f7 f8 f9) : ∀ k, W.heap.size ≤ k → k ≠ g := by
 obtain ⟨A9, c9, hb, hg, hr9⟩ := h
 exact Kd.freshB hb
theorem IsS73.kept {w0 W : World} {g : Nat} {f0 : Int} {f1 : Int} {f2 : Int} {f3 : Int} {f4 : Int} {f5 : Int} {f6 : Int} {f7 : Int} {f8 : Int} {f9 : List Int} {W1 : World} {S : Nat → Prop} (h : IsS73 w0 W g f0 f1 f2 f3 f4 f5 f6 f7 f8 f9) (hk : Kept W W1 S) (hne : ¬ S g) : IsS73 w0 W1 g f0 f1 f2 f3 f4 f5 f6 f7 f8 f9 := by
 obtain ⟨A9, c9, hb, hg, hr9⟩ := h
 exact ⟨A9, c9, blk_kept hb hk hne, hg, hr9⟩
theorem IsS73.below {w0 W : World} {g : Nat} {f0 : Int} {f1 : Int} {f2 : Int} {f3 : Int} {f4 : Int} {f5 : Int} {f6 : Int} {f7 : Int} {f8 : Int} {f9 : List Int} {W1 : World} (h : IsS73 w0 W g f0 f1 f2 f3 f4 f5 f6 f7 f8 f9) (hw : Below W.heap.size W W1) : IsS73 w0 W1 g f0 f1 f2 f3 f4 f5 f6 f7 f8 f9 := h.grown (grown_of_below hw none) (by simp)
theorem IsS73.alloc {w0 W : World} {g : Nat} {f0 : Int} {f1 : Int} {f2 : Int} {f3 : Int} {f4 : Int} {f5 : Int} {f6 : Int} {f7 : Int} {f8 : Int} {f9 : List Int} (h : IsS73 w0 W g f0 f1 f2 f3 f4 f5 f6 f7 f8 f9) (o : Obj) : IsS73 w0 (W.alloc o) g f0 f1 f2 f3 f4 f5 f6 f7 f8 f9 := h.below (below_alloc (Below.refl _ _) o)
theorem IsS73.drewN {w0 W : World} {g : Nat} {f0 : Int} {f1 : Int} {f2 : Int} {f3 : Int} {f4 : Int} {f5 : Int} {f6 : Int} {f7 : Int} {f8 : Int} {f9 : List Int} (h : IsS73 w0 W g f0 f1 f2 f3 f4 f5 f6 f7 f8 f9) (m : Nat) : IsS73 w0 (W.drewN m) g f0 f1 f2 f3 f4 f5 f6 f7 f8 f9 := h
theorem IsS73.drew {w0 W : World} {g : Nat} {f0 : Int} {f1 : Int} {f2 : Int} {f3 : Int} {f4 : Int} {f5 : Int} {f6 : Int} {f7 : Int} {f8 : Int} {f9 : List Int} (h : IsS73 w0 W g f0 f1 f2 f3 f4 f5 f6 f7 f8 f9) : IsS73 w0 W.drew g f0 f1 f2 f3 f4 f5 f6 f7 f8 f9 := h
theorem IsS73.at_ {w0 W : World} {g : Nat} {f0 : Int} {f1 : Int} {f2 : Int} {f3 : Int} {f4 : Int} {f5 : Int} {f6 : Int} {f7 : Int} {f8 : Int} {f9 : List Int} {w' : World} {m : Nat} (hq : W.drewN m = w') (h : IsS73 w0 W g f0 f1 f2 f3 f4 f5 f6 f7 f8 f9) : IsS73 w0 w' g f0 f1 f2 f3 f4 f5 f6 f7 f8 f9 := by subst hq; exact IsS73.drewN h m
theorem IsS73.apart {w0 W : World} {g : Nat} {f0 : Int} {f1 : Int} {f2 : Int} {f3 : Int} {f4 : Int} {f5 : Int} {f6 : Int} {f7 : Int} {f8 : Int} {f9 : List Int} {α : Type} {d : Kd α} {e : Nat} {base : Nat} {ok : Nat → Prop} {v : Value} {xs : List α} (h : IsS73 w0 W g f0 f1 f2 f3 f4 f5 f6 f7 f8 f9) (ho : d.R e W base ok v xs) (ht : ∀ q, q ∈ e :: d.E → q ≠ 73) : d.R e W base (fun k => ok k ∧ k ≠ g) v xs := by
 obtain ⟨A9, c9, hb, hg, hr9⟩ := h
 exact Kd.R_types ho hb ht
theorem IsS73.own_ne {w0 W : World} {g : Nat} {f0 : Int} {f1 : Int} {f2 : Int} {f3 : Int} {f4 : Int} {f5 : Int} {f6 : Int} {f7 : Int} {f8 : Int} {f9 : List Int} {α : Type} {d : Kd α} {e : Nat} {base : Nat} {ok : Nat → Prop} {v : Value} {xs : List α} (h : IsS73 w0 W g f0 f1 f2 f3 f4 f5 f6 f7 f8 f9) (ho : d.R e W base ok v xs) (ht : e ≠ 73) : some g ≠ v.ownBlock := by
 obtain ⟨A9, c9, hb, hg, hr9⟩ := h
 exact Kd.R_ne ho hb ht
theorem IsS73.apartQ {w0 W : World} {g : Nat} {f0 : Int} {f1 : Int} {f2 : Int} {f3 : Int} {f4 : Int} {f5 : Int} {f6 : Int} {f7 : Int} {f8 : Int} {f9 : List Int} {α : Type} {d : Kd α} {e : Nat} {base : Nat} {ok : Nat → Prop} {v : Value} {xs : List α} (h : IsS73 w0 W g f0 f1 f2 f3 f4 f5 f6 f7 f8 f9) (ho : d.Q e W base ok v xs) (ht : ∀ q, q ∈ e :: d.E → q ≠ 73) : d.Q e W base (fun k => ok k ∧ k ≠ g) v xs := by
 obtain ⟨A9, c9, hb, hg, hr9⟩ := h
 exact Kd.Q_types ho hb ht
theorem IsS73.own_neQ {w0 W : World} {g : Nat} {f0 : Int} {f1 : Int} {f2 : Int} {f3 : Int} {f4 : Int} {f5 : Int} {f6 : Int} {f7 : Int} {f8 : Int} {f9 : List Int} {α : Type} {d : Kd α} {e : Nat} {base : Nat} {ok : Nat → Prop} {v : Value} {xs : List α} (h : IsS73 w0 W g f0 f1 f2 f3 f4 f5 f6 f7 f8 f9) (ho : d.Q e W base ok v xs) (ht : e ≠ 73) : some g ≠ v.ownBlock := by
 obtain ⟨A9, c9, hb, hg, hr9⟩ := h
 exact Kd.Q_ne ho hb ht
theorem IsS73.apartS {w0 W : World} {g : Nat} {f0 : Int} {f1 : Int} {f2 : Int} {f3 : Int} {f4 : Int} {f5 : Int} {f6 : Int} {f7 : Int} {f8 : Int} {f9 : List Int} {α : Type} {d : Kd α} {e : Nat} {base : Nat} {ok : Nat → Prop} {v : Value} {xs : List α} (h : IsS73 w0 W g f0 f1 f2 f3 f4 f5 f6 f7 f8 f9) (ho : d.S e W base ok v xs) (ht : ∀ q, q ∈ e :: d.E → q ≠ 73) : d.S e W base (fun k => ok k ∧ k ≠ g) v xs := by
 obtain ⟨A9, c9, hb, hg, hr9⟩ := h
 exact Kd.S_types ho hb ht
theorem IsS73.own_neS {w0 W : World} {g : Nat} {f0 : Int} {f1 : Int} {f2 : Int} {f3 : Int} {f4 : Int} {f5 : Int} {f6 : Int} {f7 : Int} {f8 : Int} {f9 : List Int} {α : Type} {d : Kd α} {e : Nat} {base : Nat} {ok : Nat → Prop} {v : Value} {xs : List α} (h : IsS73 w0 W g f0 f1 f2 f3 f4 f5 f6 f7 f8 f9) (ho : d.S e W base ok v xs) (ht : e ≠ 73) : some g ≠ v.ownBlock := by
 obtain ⟨A9, c9, hb, hg, hr9⟩ := h
 exact Kd.S_ne ho hb ht
theorem IsS73.lt {w0 W : World} {g : Nat} {f0 : Int} {f1 : Int} {f2 : Int} {f3 : Int} {f4 : Int} {f5 : Int} {f6 : Int} {f7 : Int} {f8 : Int} {f9 : List Int} (h : IsS73 w0 W g f0 f1 f2 f3 f4 f5 f6 f7 f8 f9) : g < W.heap.size := by
 obtain ⟨A9, c9, hb, hg, hr9⟩ := h
 exact blk_lt hb
theorem IsS73.ge {w0 W : World} {g : Nat} {f0 : Int} {f1 : Int} {f2 : Int} {f3 : Int} {f4 : Int} {f5 : Int} {f6 : Int} {f7 : Int} {f8 : Int} {f9 : List Int} (h : IsS73 w0 W g f0 f1 f2 f3 f4 f5 f6 f7 f8 f9) : w0.heap.size ≤ g := by
 obtain ⟨A9, c9, hb, hg, hr9⟩ := h
 exact hg
theorem IsS73.ne_blk {w0 W : World} {g : Nat} {f0 : Int} {f1 : Int} {f2 : Int} {f3 : Int} {f4 : Int} {f5 : Int} {f6 : Int} {f7 : Int} {f8 : Int} {f9 : List Int} {a : Nat} {cs : Array Value} {t : TypeId} {fr : Nat × Nat} (h : IsS73 w0 W g f0 f1 f2 f3 f4 f5 f6 f7 f8 f9) (hb2 : W.heap[a]? = some (.cells cs t fr)) (ht : t ≠ 73) : g ≠ a := by
 obtain ⟨A9, c9, hb, hg, hr9⟩ := h
 rintro rfl
 rw [hb] at hb2
 injection hb2 with hb2
 injection hb2 with _ ht2
 exact ht ht2.symm
theorem IsS73.far {w0 W : World} {g : Nat} {f0 : Int} {f1 : Int} {f2 : Int} {f3 : Int} {f4 : Int} {f5 : Int} {f6 : Int} {f7 : Int} {f8 : Int} {f9 : List Int} {p : Addr} (h : IsS73 w0 W g f0 f1 f2 f3 f4 f5 f6 f7 f8 f9) (hne : g ≠ p.block) (u : Value) : IsS73 w0 (W.setCell p u) g f0 f1 f2 f3 f4 f5 f6 f7 f8 f9 := by
 obtain ⟨A9, c9, hb, hg, hr9⟩ := h
 exact ⟨A9, c9, blk_far hb hne u, hg, hr9⟩
theorem cellS73_0 {W : World} {g : Nat} {A9 : Option Addr} {c9 : Nat} {f0 : Int} {f1 : Int} {f2 : Int} {f3 : Int} {f4 : Int} {f5 : Int} {f6 : Int} {f7 : Int} {f8 : Int} {f9 : List Int} (h : W.heap[g]? = some (.cells #[.int .i64 f0, .int .i64 f1, .int .i64 f2, .int .i64 f3, .int .i64 f4, .int .i64 f5, .int .i64 f6, .int .i64 f7, .int .u64 f8, .slice A9 f9.length c9] 73 (0, 0))) : W.cell? ⟨g, 0, none⟩ = some (.int .i64 f0) := (blk_cell h 0).trans rfl
theorem IsS73.set_0 {w0 W : World} {g : Nat} {f0 : Int} {f1 : Int} {f2 : Int} {f3 : Int} {f4 : Int} {f5 : Int} {f6 : Int} {f7 : Int} {f8 : Int} {f9 : List Int} (h : IsS73 w0 W g f0 f1 f2 f3 f4 f5 f6 f7 f8 f9) (x : Int) : IsS73 w0 (W.setCell ⟨g, 0, none⟩ (.int .i64 x)) g x f1 f2 f3 f4 f5 f6 f7 f8 f9 := by
 obtain ⟨A9, c9, hb, hg, hr9⟩ := h
 exact ⟨A9, c9, by simpa using blk_set hb 0 (.int .i64 x), hg, hr9⟩
theorem cellS73_1 {W : World} {g : Nat} {A9 : Option Addr} {c9 : Nat} {f0 : Int} {f1 : Int} {f2 : Int} {f3 : Int} {f4 : Int} {f5 : Int} {f6 : Int} {f7 : Int} {f8 : Int} {f9 : List Int} (h : W.heap[g]? = some (.cells #[.int .i64 f0, .int .i64 f1, .int .i64 f2, .int .i64 f3, .int .i64 f4, .int .i64 f5, .int .i64 f6, .int .i64 f7, .int .u64 f8, .slice A9 f9.length c9] 73 (0, 0))) : W.cell? ⟨g, 1, none⟩ = some (.int .i64 f1) := (blk_cell h 1).trans rfl
theorem IsS73.set_1 {w0 W : World} {g : Nat} {f0 : Int} {f1 : Int} {f2 : Int} {f3 : Int} {f4 : Int} {f5 : Int} {f6 : Int} {f7 : Int} {f8 : Int} {f9 : List Int} (h : IsS73 w0 W g f0 f1 f2 f3 f4 f5 f6 f7 f8 f9) (x : Int) : IsS73 w0 (W.setCell ⟨g, 1, none⟩ (.int .i64 x)) g f0 x f2 f3 f4 f5 f6 f7 f8 f9 := by
 obtain ⟨A9, c9, hb, hg, hr9⟩ := h
 exact ⟨A9, c9, by simpa using blk_set hb 1 (.int .i64 x), hg, hr9⟩
theorem cellS73_2 {W : World} {g : Nat} {A9 : Option Addr} {c9 : Nat} {f0 : Int} {f1 : Int} {f2 : Int} {f3 : Int} {f4 : Int} {f5 : Int} {f6 : Int} {f7 : Int} {f8 : Int} {f9 : List Int} (h : W.heap[g]? = some (.cells #[.int .i64 f0, .int .i64 f1, .int .i64 f2, .int .i64 f3, .int .i64 f4, .int .i64 f5, .int .i64 f6, .int .i64 f7, .int .u64 f8, .slice A9 f9.length c9] 73 (0, 0))) : W.cell? ⟨g, 2, none⟩ = some (.int .i64 f2) := (blk_cell h 2).trans rfl
theorem IsS73.set_2 {w0 W : World} {g : Nat} {f0 : Int} {f1 : Int} {f2 : Int} {f3 : Int} {f4 : Int} {f5 : Int} {f6 : Int} {f7 : Int} {f8 : Int} {f9 : List Int} (h : IsS73 w0 W g f0 f1 f2 f3 f4 f5 f6 f7 f8 f9) (x : Int) : IsS73 w0 (W.setCell ⟨g, 2, none⟩ (.int .i64 x)) g f0 f1 x f3 f4 f5 f6 f7 f8 f9 := by
 obtain ⟨A9, c9, hb, hg, hr9⟩ := h
 exact ⟨A9, c9, by simpa using blk_set hb 2 (.int .i64 x), hg, hr9⟩
theorem cellS73_3 {W : World} {g : Nat} {A9 : Option Addr} {c9 : Nat} {f0 : Int} {f1 : Int} {f2 : Int} {f3 : Int} {f4 : Int} {f5 : Int} {f6 : Int} {f7 : Int} {f8 : Int} {f9 : List Int} (h : W.heap[g]? = some (.cells #[.int .i64 f0, .int .i64 f1, .int .i64 f2, .int .i64 f3, .int .i64 f4, .int .i64 f5, .int .i64 f6, .int .i64 f7, .int .u64 f8, .slice A9 f9.length c9] 73 (0, 0))) : W.cell? ⟨g, 3, none⟩ = some (.int .i64 f3) := (blk_cell h 3).trans rfl
theorem IsS73.set_3 {w0 W : World} {g : Nat} {f0 : Int} {f1 : Int} {f2 : Int} {f3 : Int} {f4 : Int} {f5 : Int} {f6 : Int} {f7 : Int} {f8 : Int} {f9 : List Int} (h : IsS73 w0 W g f0 f1 f2 f3 f4 f5 f6 f7 f8 f9) (x : Int) : IsS73 w0 (W.setCell ⟨g, 3, none⟩ (.int .i64 x)) g f0 f1 f2 x f4 f5 f6 f7 f8 f9 := by
 obtain ⟨A9, c9, hb, hg, hr9⟩ := h
 exact ⟨A9, c9, by simpa using blk_set hb 3 (.int .i64 x), hg, hr9⟩
theorem cellS73_4 {W : World} {g : Nat} {A9 : Option Addr} {c9 : Nat} {f0 : Int} {f1 : Int} {f2 : Int} {f3 : Int} {f4 : Int} {f5 : Int} {f6 : Int} {f7 : Int} {f8 : Int} {f9 : List Int} (h : W.heap[g]? = some (.cells #[.int .i64 f0, .int .i64 f1, .int .i64 f2, .int .i64 f3, .int .i64 f4, .int .i64 f5, .int .i64 f6, .int .i64 f7, .int .u64 f8, .slice A9 f9.length c9] 73 (0, 0))) : W.cell? ⟨g, 4, none⟩ = some (.int .i64 f4) := (blk_cell h 4).trans rfl
theorem IsS73.set_4 {w0 W : World} {g : Nat} {f0 : Int} {f1 : Int} {f2 : Int} {f3 : Int} {f4 : Int} {f5 : Int} {f6 : Int} {f7 : Int} {f8 : Int} {f9 : List Int} (h : IsS73 w0 W g f0 f1 f2 f3 f4 f5 f6 f7 f8 f9) (x : Int) : IsS73 w0 (W.setCell ⟨g, 4, none⟩ (.int .i64 x)) g f0 f1 f2 f3 x f5 f6 f7 f8 f9 := by
 obtain ⟨A9, c9, hb, hg, hr9⟩ := h
 exact ⟨A9, c9, by simpa using blk_set hb 4 (.int .i64 x), hg, hr9⟩
theorem cellS73_5 {W : World} {g : Nat} {A9 : Option Addr} {c9 : Nat} {f0 : Int} {f1 : Int} {f2 : Int} {f3 : Int} {f4 : Int} {f5 : Int} {f6 : Int} {f7 : Int} {f8 : Int} {f9 : List Int} (h : W.heap[g]? = some (.cells #[.int .i64 f0, .int .i64 f1, .int .i64 f2, .int .i64 f3, .int .i64 f4, .int .i64 f5, .int .i64 f6, .int .i64 f7, .int .u64 f8, .slice A9 f9.length c9] 73 (0, 0))) : W.cell? ⟨g, 5, none⟩ = some (.int .i64 f5) := (blk_cell h 5).trans rfl
theorem IsS73.set_5 {w0 W : World} {g : Nat} {f0 : Int} {f1 : Int} {f2 : Int} {f3 : Int} {f4 : Int} {f5 : Int} {f6 : Int} {f7 : Int} {f8 : Int} {f9 : List Int} (h : IsS73 w0 W g f0 f1 f2 f3 f4 f5 f6 f7 f8 f9) (x : Int) : IsS73 w0 (W.setCell ⟨g, 5, none⟩ (.int .i64 x)) g f0 f1 f2 f3 f4 x f6 f7 f8 f9 := by
 obtain ⟨A9, c9, hb, hg, hr9⟩ := h
 exact ⟨A9, c9, by simpa using blk_set hb 5 (.int .i64 x), hg, hr9⟩
theorem cellS73_6 {W : World} {g : Nat} {A9 : Option Addr} {c9 : Nat} {f0 : Int} {f1 : Int} {f2 : Int} {f3 : Int} {f4 : Int} {f5 : Int} {f6 : Int} {f7 : Int} {f8 : Int} {f9 : List Int} (h : W.heap[g]? = some (.cells #[.int .i64 f0, .int .i64 f1, .int .i64 f2, .int .i64 f3, .int .i64 f4, .int .i64 f5, .int .i64 f6, .int .i64 f7, .int .u64 f8, .slice A9 f9.length c9] 73 (0, 0))) : W.cell? ⟨g, 6, none⟩ = some (.int .i64 f6) := (blk_cell h 6).trans rfl
theorem IsS73.set_6 {w0 W : World} {g : Nat} {f0 : Int} {f1 : Int} {f2 : Int} {f3 : Int} {f4 : Int} {f5 : Int} {f6 : Int} {f7 : Int} {f8 : Int} {f9 : List Int} (h : IsS73 w0 W g f0 f1 f2 f3 f4 f5 f6 f7 f8 f9) (x : Int) : IsS73 w0 (W.setCell ⟨g, 6, none⟩ (.int .i64 x)) g f0 f1 f2 f3 f4 f5 x f7 f8 f9 := by
 obtain ⟨A9, c9, hb, hg, hr9⟩ := h
 exact ⟨A9, c9, by simpa using blk_set hb 6 (.int .i64 x), hg, hr9⟩
theorem cellS73_7 {W : World} {g : Nat} {A9 : Option Addr} {c9 : Nat} {f0 : Int} {f1 : Int} {f2 : Int} {f3 : Int} {f4 : Int} {f5 : Int} {f6 : Int} {f7 : Int} {f8 : Int} {f9 : List Int} (h : W.heap[g]? = some (.cells #[.int .i64 f0, .int .i64 f1, .int .i64 f2, .int .i64 f3, .int .i64 f4, .int .i64 f5, .int .i64 f6, .int .i64 f7, .int .u64 f8, .slice A9 f9.length c9] 73 (0, 0))) : W.cell? ⟨g, 7, none⟩ = some (.int .i64 f7) := (blk_cell h 7).trans rfl
theorem IsS73.set_7 {w0 W : World} {g : Nat} {f0 : Int} {f1 : Int} {f2 : Int} {f3 : Int} {f4 : Int} {f5 : Int} {f6 : Int} {f7 : Int} {f8 : Int} {f9 : List Int} (h : IsS73 w0 W g f0 f1 f2 f3 f4 f5 f6 f7 f8 f9) (x : Int) : IsS73 w0 (W.setCell ⟨g, 7, none⟩ (.int .i64 x)) g f0 f1 f2 f3 f4 f5 f6 x f8 f9 := by
 obtain ⟨A9, c9, hb, hg, hr9⟩ := h
 exact ⟨A9, c9, by simpa using blk_set hb 7 (.int .i64 x), hg, hr9⟩
theorem cellS73_8 {W : World} {g : Nat} {A9 : Option Addr} {c9 : Nat} {f0 : Int} {f1 : Int} {f2 : Int} {f3 : Int} {f4 : Int} {f5 : Int} {f6 : Int} {f7 : Int} {f8 : Int} {f9 : List Int} (h : W.heap[g]? = some (.cells #[.int .i64 f0, .int .i64 f1, .int .i64 f2, .int .i64 f3, .int .i64 f4, .int .i64 f5, .int .i64 f6, .int .i64 f7, .int .u64 f8, .slice A9 f9.length c9] 73 (0, 0))) : W.cell? ⟨g, 8, none⟩ = some (.int .u64 f8) := (blk_cell h 8).trans rfl
theorem IsS73.set_8 {w0 W : World} {g : Nat} {f0 : Int} {f1 : Int} {f2 : Int} {f3 : Int} {f4 : Int} {f5 : Int} {f6 : Int} {f7 : Int} {f8 : Int} {f9 : List Int} (h : IsS73 w0 W g f0 f1 f2 f3 f4 f5 f6 f7 f8 f9) (x : Int) : IsS73 w0 (W.setCell ⟨g, 8, none⟩ (.int .u64 x)) g f0 f1 f2 f3 f4 f5 f6 f7 x f9 := by
 obtain ⟨A9, c9, hb, hg, hr9⟩ := h
 exact ⟨A9, c9, by simpa using blk_set hb 8 (.int .u64 x), hg, hr9⟩
theorem cellS73_9 {W : World} {g : Nat} {A9 : Option Addr} {c9 : Nat} {f0 : Int} {f1 : Int} {f2 : Int} {f3 : Int} {f4 : Int} {f5 : Int} {f6 : Int} {f7 : Int} {f8 : Int} {f9 : List Int} (h : W.heap[g]? = some (.cells #[.int .i64 f0, .int .i64 f1, .int .i64 f2, .int .i64 f3, .int .i64 f4, .int .i64 f5, .int .i64 f6, .int .i64 f7, .int .u64 f8, .slice A9 f9.length c9] 73 (0, 0))) : W.cell? ⟨g, 9, none⟩ = some (.slice A9 f9.length c9) := (blk_cell h 9).trans rfl
theorem IsS73.new (w0 W : World) (A9 : Option Addr) (c9 : Nat) (f0 : Int) (f1 : Int) (f2 : Int) (f3 : Int) (f4 : Int) (f5 : Int) (f6 : Int) (f7 : Int) (f8 : Int) (f9 : List Int) (hB : Below w0.heap.size w0 W) (hr9 : Kd.C (Kd.int .u64) w0 A9 f9.length f9) : IsS73 w0 (W.alloc (.cells #[.int .i64 f0, .int .i64 f1, .int .i64 f2, .int .i64 f3, .int .i64 f4, .int .i64 f5, .int .i64 f6, .int .i64 f7, .int .u64 f8, .slice A9 f9.length c9] 73)) W.heap.size f0 f1 f2 f3 f4 f5 f6 f7 f8 f9 := ⟨A9, c9, by simpa using heap_alloc_new W _, hB.size, hr9⟩

/-! ### backfillref12_Ledger_Own: function 39 -/
def backfillref12_Ledger_Own.f (s0_0 : Int) (s0_1 : Int) (s0_2 : Int) (s0_3 : Int) (s0_4 : Int) (s0_5 : Int) (s0_6 : Int) (s0_7 : Int) (s0_8 : Int) (s0_9 : List Int) (a1 : Int) : Option (Int × Int × Int × Int × Int × Int × Int × Int × Int × Int) := if a1 < 0 then (some (0, s0_0, s0_1, s0_2, s0_3, s0_4, s0_5, s0_6, s0_7, s0_8)) else (if a1 ≥ (s0_9.length : Int) then (some (0, s0_0, s0_1, s0_2, s0_3, s0_4, s0_5, s0_6, s0_7, s0_8)) else (if 0 ≤ a1 then (if a1 < (s0_9.length : Int) then (some (rd s0_9 a1, s0_0, s0_1, s0_2, s0_3, s0_4, s0_5, s0_6, s0_7, s0_8)) else (none)) else (none)))
set_option maxHeartbeats 8000000 in
set_option maxRecDepth 100000 in
theorem backfillref12_Ledger_Own.calls (g : Nat) (s0_0 : Int) (s0_1 : Int) (s0_2 : Int) (s0_3 : Int) (s0_4 : Int) (s0_5 : Int) (s0_6 : Int) (s0_7 : Int) (s0_8 : Int) (s0_9 : List Int) (a1 : Int) (r1 : Int) (r2 : Int) (r3 : Int) (r4 : Int) (r5 : Int) (r6 : Int) (r7 : Int) (r8 : Int) (r9 : Int) (r10 : Int) (w0 w : World) (hI : IsS73 w0 w g s0_0 s0_1 s0_2 s0_3 s0_4 s0_5 s0_6 s0_7 s0_8 s0_9) (hB : Below w0.heap.size w0 w) (h : backfillref12_Ledger_Own.f s0_0 s0_1 s0_2 s0_3 s0_4 s0_5 s0_6 s0_7 s0_8 s0_9 a1 = some (r1, r2, r3, r4, r5, r6, r7, r8, r9, r10)) :
  Calls Tryd.prog 39 #[.pointer (some ⟨g, 0, none⟩), .int .i64 a1] w fun e w' => e = .returned (.int .u64 r1) ∧ IsS73 w0 w' g r2 r3 r4 r5 r6 r7 r8 r9 r10 s0_9 ∧ Below w0.heap.size w0 w' ∧ KeepBut w w' g none := by
 have HI0 := Aside0.mk hI
 have HK := Aside0.mk (KeepBut.refl w g none)
 have HL := Aside0.mk hB.size
 clear hI
 have HW0 := Aside0.mk hB.size
 have HB := Aside0.mk hB
 clear hB
 have H : (if a1 < 0 then (some (0, s0_0, s0_1, s0_2, s0_3, s0_4, s0_5, s0_6, s0_7, s0_8)) else (if a1 ≥ (s0_9.length : Int) then (some (0, s0_0, s0_1, s0_2, s0_3, s0_4, s0_5, s0_6, s0_7, s0_8)) else (if 0 ≤ a1 then (if a1 < (s0_9.length : Int) then (some (rd s0_9 a1, s0_0, s0_1, s0_2, s0_3, s0_4, s0_5, s0_6, s0_7, s0_8)) else (none)) else (none)))) = some (r1, r2, r3, r4, r5, r6, r7, r8, r9, r10) := h
 clear h
 by_cases c3 : a1 < 0
 ·rw [if_pos c3] at H
  have c3b0 : decide (a1 < 0) = true := decide_eq_true c3
  clear c3
  simp only [Option.some.injEq, Prod.mk.injEq] at H
  obtain ⟨rfl, rfl, rfl, rfl, rfl, rfl, rfl, rfl, rfl, rfl⟩ := H
  go_enter Tryd.func39, Tryd.ntmps39
  go_wp2
  go_ret
  exact ⟨by first | rfl | (simp [errW_none, errW_some] <;> rfl) | (simp [*, errW_none, errW_some] <;> rfl), by repeat (first | (with_reducible first | exact HI0.out | apply IsS73.alloc | apply IsS73.drewN | apply IsS73.drew | apply IsS73.set_0 | apply IsS73.set_1 | apply IsS73.set_2 | apply IsS73.set_3 | apply IsS73.set_4 | apply IsS73.set_5 | apply IsS73.set_6 | apply IsS73.set_7 | apply IsS73.set_8) | exact HI0.out), by repeat (first | (with_reducible first | exact HB.out | apply below_alloc | apply pw_below_drewN | apply below_drew1 | refine below_set ?_ (IsS73.ge HI0.out)) | exact HB.out), by repeat (first | (with_reducible first | exact HK.out | apply KeepBut.set_ | apply keep_drewN | apply keep_drew | apply keep_alloc) | exact HK.out)⟩
 ·rw [if_neg c3] at H
  have c3b0 : decide (a1 < 0) = false := decide_eq_false c3
  clear c3
  by_cases c4 : a1 ≥ (s0_9.length : Int)
  ·rw [if_pos c4] at H
   have c4b0 : decide ((s0_9.length : Int) ≤ a1) = true := decide_eq_true c4
   clear c4
   simp only [Option.some.injEq, Prod.mk.injEq] at H
   obtain ⟨rfl, rfl, rfl, rfl, rfl, rfl, rfl, rfl, rfl, rfl⟩ := H
   obtain ⟨ASz5_9, cSz5_9, HGz5, hgz5, HSz5_9⟩ := HI0.out
   have hcz5_0 := cellS73_0 HGz5
   have hcz5_1 := cellS73_1 HGz5
   have hcz5_2 := cellS73_2 HGz5
   have hcz5_3 := cellS73_3 HGz5
   have hcz5_4 := cellS73_4 HGz5
   have hcz5_5 := cellS73_5 HGz5
   have hcz5_6 := cellS73_6 HGz5
   have hcz5_7 := cellS73_7 HGz5
   have hcz5_8 := cellS73_8 HGz5
   have hcz5_9 := cellS73_9 HGz5
   have hfz5_0 := blk_frozen HGz5 0
   have hfz5_1 := blk_frozen HGz5 1
   have hfz5_2 := blk_frozen HGz5 2
   have hfz5_3 := blk_frozen HGz5 3
   have hfz5_4 := blk_frozen HGz5 4
   have hfz5_5 := blk_frozen HGz5 5
   have hfz5_6 := blk_frozen HGz5 6
   have hfz5_7 := blk_frozen HGz5 7
   have hfz5_8 := blk_frozen HGz5 8
   clear HGz5 hgz5
   go_enter Tryd.func39, Tryd.ntmps39
   go_wp2
   go_ret
   exact ⟨by first | rfl | (simp [errW_none, errW_some] <;> rfl) | (simp [*, errW_none, errW_some] <;> rfl), by repeat (first | (with_reducible first | exact HI0.out | apply IsS73.alloc | apply IsS73.drewN | apply IsS73.drew | apply IsS73.set_0 | apply IsS73.set_1 | apply IsS73.set_2 | apply IsS73.set_3 | apply IsS73.set_4 | apply IsS73.set_5 | apply IsS73.set_6 | apply IsS73.set_7 | apply IsS73.set_8) | exact HI0.out), by repeat (first | (with_reducible first | exact HB.out | apply below_alloc | apply pw_below_drewN | apply below_drew1 | refine below_set ?_ (IsS73.ge HI0.out)) | exact HB.out), by repeat (first | (with_reducible first | exact HK.out | apply KeepBut.set_ | apply keep_drewN | apply keep_drew | apply keep_alloc) | exact HK.out)⟩
  ·rw [if_neg c4] at H
   have c4b0 : decide ((s0_9.length : Int) ≤ a1) = false := decide_eq_false c4
   clear c4
   by_cases c6 : 0 ≤ a1
   ·rw [if_pos c6] at H
    have c6b0 : decide (0 ≤ a1) = true := decide_eq_true c6
    clear c6
    by_cases c7 : a1 < (s0_9.length : Int)
    ·rw [if_pos c7] at H
     have c7b0 : decide (a1 < (s0_9.length : Int)) = true := decide_eq_true c7
     clear c7
     simp only [Option.some.injEq, Prod.mk.injEq] at H
     obtain ⟨rfl, rfl, rfl, rfl, rfl, rfl, rfl, rfl, rfl, rfl⟩ := H
     obtain ⟨ASz8_9, cSz8_9, HGz8, hgz8, HSz8_9⟩ := HI0.out
     have hcz8_0 := cellS73_0 HGz8
     have hcz8_1 := cellS73_1 HGz8
     have hcz8_2 := cellS73_2 HGz8
     have hcz8_3 := cellS73_3 HGz8
     have hcz8_4 := cellS73_4 HGz8
     have hcz8_5 := cellS73_5 HGz8
     have hcz8_6 := cellS73_6 HGz8
     have hcz8_7 := cellS73_7 HGz8
     have hcz8_8 := cellS73_8 HGz8
     have hcz8_9 := cellS73_9 HGz8
     have hfz8_0 := blk_frozen HGz8 0
     have hfz8_1 := blk_frozen HGz8 1
     have hfz8_2 := blk_frozen HGz8 2
     have hfz8_3 := blk_frozen HGz8 3
     have hfz8_4 := blk_frozen HGz8 4
     have hfz8_5 := blk_frozen HGz8 5
     have hfz8_6 := blk_frozen HGz8 6
     have hfz8_7 := blk_frozen HGz8 7
     have hfz8_8 := blk_frozen HGz8 8
     clear HGz8 hgz8
     have p417 : 0 ≤ (a1 : Int) := of_decide_eq_true (by first | (with_reducible assumption) | assumption)
     have q417 : a1 < (s0_9.length : Int) := of_decide_eq_true (by first | (with_reducible assumption) | assumption)
     obtain ⟨ad417, e417, hx417_0⟩ := Kd.at_int HSz8_9 a1 p417 q417
     cases e417
     replace hx417_0 := pw_cell_below HB.out hx417_0
     replace p417 := eq_true p417
     replace q417 := eq_true q417
     go_enter Tryd.func39, Tryd.ntmps39
     go_wp2
     go_ret
     exact ⟨by first | rfl | (simp [errW_none, errW_some] <;> rfl) | (simp [*, errW_none, errW_some] <;> rfl), by repeat (first | (with_reducible first | exact HI0.out | apply IsS73.alloc | apply IsS73.drewN | apply IsS73.drew | apply IsS73.set_0 | apply IsS73.set_1 | apply IsS73.set_2 | apply IsS73.set_3 | apply IsS73.set_4 | apply IsS73.set_5 | apply IsS73.set_6 | apply IsS73.set_7 | apply IsS73.set_8) | exact HI0.out), by repeat (first | (with_reducible first | exact HB.out | apply below_alloc | apply pw_below_drewN | apply below_drew1 | refine below_set ?_ (IsS73.ge HI0.out)) | exact HB.out), by repeat (first | (with_reducible first | exact HK.out | apply KeepBut.set_ | apply keep_drewN | apply keep_drew | apply keep_alloc) | exact HK.out)⟩
    ·rw [if_neg c7] at H
     exact absurd H (by simp)
   ·rw [if_neg c6] at H
    exact absurd H (by simp)

/-! ### backfillref12_Ledger_Sum: function 18 -/
def backfillref12_Ledger_Sum.l0 : Nat → Int → List Int → Int → Int → Int → Int → Int → Int → Int → Int → Int → Int → Int → List Int → Option (Int × Int × Int × Int × Int × Int × Int × Int × Int × Int)
 | 0, _, _, _, _, _, _, _, _, _, _, _, _, _, _ => none
 | k + 1, x5, x9, x10, x11, x1000, x1001, x1002, x1003, x1004, x1005, x1006, x1007, x1008, x1009 => if x11 < x10 then (if 0 ≤ x11 then (if x11 < (x9.length : Int) then ((backfillref12_Ledger_Own.f x1000 x1001 x1002 x1003 x1004 x1005 x1006 x1007 x1008 x1009 (rd x9 x11)).bind fun bt419 => (if (IntKind.u64.wrap (x5 + bt419.1)) < x5 then (some (18446744073709551615, bt419.2.1, bt419.2.2.1, bt419.2.2.2.1, bt419.2.2.2.2.1, bt419.2.2.2.2.2.1, bt419.2.2.2.2.2.2.1, bt419.2.2.2.2.2.2.2.1, bt419.2.2.2.2.2.2.2.2.1, bt419.2.2.2.2.2.2.2.2.2)) else (backfillref12_Ledger_Sum.l0 k (IntKind.u64.wrap (x5 + bt419.1)) x9 x10 (wrap64 (x11 + 1)) bt419.2.1 bt419.2.2.1 bt419.2.2.2.1 bt419.2.2.2.2.1 bt419.2.2.2.2.2.1 bt419.2.2.2.2.2.2.1 bt419.2.2.2.2.2.2.2.1 bt419.2.2.2.2.2.2.2.2.1 bt419.2.2.2.2.2.2.2.2.2 x1009))) else (none)) else (none)) else (some (x5, x1000, x1001, x1002, x1003, x1004, x1005, x1006, x1007, x1008))
def backfillref12_Ledger_Sum.f (k : Nat) (s0_0 : Int) (s0_1 : Int) (s0_2 : Int) (s0_3 : Int) (s0_4 : Int) (s0_5 : Int) (s0_6 : Int) (s0_7 : Int) (s0_8 : Int) (s0_9 : List Int) (l1 : List Int) : Option (Int × Int × Int × Int × Int × Int × Int × Int × Int × Int) := backfillref12_Ledger_Sum.l0 k 0 l1 (l1.length : Int) 0 s0_0 s0_1 s0_2 s0_3 s0_4 s0_5 s0_6 s0_7 s0_8 s0_9
theorem backfillref12_Ledger_Sum.mono_l : ∀ k, (∀ y0 y1 y2 y3 y4 y5 y6 y7 y8 y9 y10 y11 y12 y13, LeO (backfillref12_Ledger_Sum.l0 k y0 y1 y2 y3 y4 y5 y6 y7 y8 y9 y10 y11 y12 y13) (backfillref12_Ledger_Sum.l0 (k + 1) y0 y1 y2 y3 y4 y5 y6 y7 y8 y9 y10 y11 y12 y13))
 | 0 => fun _ _ _ _ _ _ _ _ _ _ _ _ _ _ r h => by simp [backfillref12_Ledger_Sum.l0] at h
 | k + 1 => by
  have ih0 := backfillref12_Ledger_Sum.mono_l k
  ·intro y0 y1 y2 y3 y4 y5 y6 y7 y8 y9 y10 y11 y12 y13
   unfold backfillref12_Ledger_Sum.l0
   repeat' first
   | (with_reducible exact ih0 _ _ _ _ _ _ _ _ _ _ _ _ _ _)
   | (with_reducible exact LeO.refl _)
   | (with_reducible exact LeO.none _)
   | (with_reducible refine LeO.ite ?_ ?_)
   | (with_reducible refine LeO.bind ?_ (fun _ => ?_))
   | exact ih0 _ _ _ _ _ _ _ _ _ _ _ _ _ _
   | exact LeO.none _
   | refine LeO.ite ?_ ?_
   | refine LeO.bind ?_ (fun _ => ?_)
theorem backfillref12_Ledger_Sum.mono : ∀ a0 a1 a2 a3 a4 a5 a6 a7 a8 a9 a10 k, LeO (backfillref12_Ledger_Sum.f k a0 a1 a2 a3 a4 a5 a6 a7 a8 a9 a10) (backfillref12_Ledger_Sum.f (k + 1) a0 a1 a2 a3 a4 a5 a6 a7 a8 a9 a10) := by
 intro a0 a1 a2 a3 a4 a5 a6 a7 a8 a9 a10 k
 have ih0 := backfillref12_Ledger_Sum.mono_l k
 unfold backfillref12_Ledger_Sum.f
 repeat' first
   | (with_reducible exact ih0 _ _ _ _ _ _ _ _ _ _ _ _ _ _)
   | (with_reducible exact LeO.refl _)
   | (with_reducible exact LeO.none _)
   | (with_reducible refine LeO.ite ?_ ?_)
   | (with_reducible refine LeO.bind ?_ (fun _ => ?_))
   | exact ih0 _ _ _ _ _ _ _ _ _ _ _ _ _ _
   | exact LeO.none _
   | refine LeO.ite ?_ ?_
   | refine LeO.bind ?_ (fun _ => ?_)
set_option maxHeartbeats 8000000 in
set_option maxRecDepth 100000 in
theorem backfillref12_Ledger_Sum.calls (k : Nat) (g : Nat) (s0_0 : Int) (s0_1 : Int) (s0_2 : Int) (s0_3 : Int) (s0_4 : Int) (s0_5 : Int) (s0_6 : Int) (s0_7 : Int) (s0_8 : Int) (s0_9 : List Int) (A1 : Option Addr) (c1 : Nat) (l1 : List Int) (r1 : Int) (r2 : Int) (r3 : Int) (r4 : Int) (r5 : Int) (r6 : Int) (r7 : Int) (r8 : Int) (r9 : Int) (r10 : Int) (w0 w : World) (hI : IsS73 w0 w g s0_0 s0_1 s0_2 s0_3 s0_4 s0_5 s0_6 s0_7 s0_8 s0_9) (hB : Below w0.heap.size w0 w) (hr1 : Kd.C (Kd.int .i64) w A1 l1.length l1) (hc1 : l1.length ≤ c1) (hf1 : ∀ ad, A1 = some ad → 0 < l1.length → ad.block ≠ g) (h : backfillref12_Ledger_Sum.f k s0_0 s0_1 s0_2 s0_3 s0_4 s0_5 s0_6 s0_7 s0_8 s0_9 l1 = some (r1, r2, r3, r4, r5, r6, r7, r8, r9, r10)) :
  Calls Tryd.prog 18 #[.pointer (some ⟨g, 0, none⟩), .slice A1 l1.length c1] w fun e w' => e = .returned (.int .u64 r1) ∧ IsS73 w0 w' g r2 r3 r4 r5 r6 r7 r8 r9 r10 s0_9 ∧ Below w0.heap.size w0 w' ∧ KeepBut w w' g none := by
 have HR1 := Aside0.mk hr1
 have HC1 := Aside0.mk hc1
 clear hr1 hc1
 have HI0 := Aside0.mk hI
 have HK := Aside0.mk (KeepBut.refl w g none)
 have HL := Aside0.mk hB.size
 clear hI
 have HW0 := Aside0.mk hB.size
 have HB := Aside0.mk hB
 clear hB
 have H : (backfillref12_Ledger_Sum.l0 k 0 l1 (l1.length : Int) 0 s0_0 s0_1 s0_2 s0_3 s0_4 s0_5 s0_6 s0_7 s0_8 s0_9) = some (r1, r2, r3, r4, r5, r6, r7, r8, r9, r10) := h
 clear h
 have H' := Aside0.mk H
 clear H
 go_enter Tryd.func18, Tryd.ntmps18
 go_wp2
 go_loopg [5, 11] k (fun kq v5 v11 w' => ∃ (x5_1 : Int) (x11_1 : Int) (x1000_1 : Int) (x1001_1 : Int) (x1002_1 : Int) (x1003_1 : Int) (x1004_1 : Int) (x1005_1 : Int) (x1006_1 : Int) (x1007_1 : Int) (x1008_1 : Int), v5 = .int .u64 x5_1 ∧ v11 = .int .i64 x11_1 ∧ Aside0 (backfillref12_Ledger_Sum.l0 kq x5_1 l1 (l1.length : Int) x11_1 x1000_1 x1001_1 x1002_1 x1003_1 x1004_1 x1005_1 x1006_1 x1007_1 x1008_1 s0_9 = some (r1, r2, r3, r4, r5, r6, r7, r8, r9, r10)) ∧ Aside0 (kq ≤ k) ∧ Aside0 (IsS73 w0 w' g x1000_1 x1001_1 x1002_1 x1003_1 x1004_1 x1005_1 x1006_1 x1007_1 x1008_1 s0_9) ∧ Aside0 (KeepBut w w' g none) ∧ Aside0 (Below w0.heap.size w0 w'))
 case atStart => exact ⟨(0), (0), (s0_0), (s0_1), (s0_2), (s0_3), (s0_4), (s0_5), (s0_6), (s0_7), (s0_8), (by first | rfl | (simp; done) | (simp [*]; done)), (by first | rfl | (simp; done) | (simp [*]; done)), H', ⟨Nat.le_refl _⟩, ⟨by repeat (first | (with_reducible first | exact HI0.out | apply IsS73.alloc | apply IsS73.drewN | apply IsS73.drew | apply IsS73.set_0 | apply IsS73.set_1 | apply IsS73.set_2 | apply IsS73.set_3 | apply IsS73.set_4 | apply IsS73.set_5 | apply IsS73.set_6 | apply IsS73.set_7 | apply IsS73.set_8) | exact HI0.out)⟩, ⟨by repeat (first | (with_reducible first | exact HK.out | apply KeepBut.set_ | apply keep_drewN | apply keep_drew | apply keep_alloc) | exact HK.out)⟩, ⟨by repeat (first | (with_reducible first | exact HB.out | apply below_alloc | apply pw_below_drewN | apply below_drew1 | refine below_set ?_ (IsS73.ge HI0.out)) | exact HB.out)⟩⟩
 case round =>
  clear H'
  try clear c1
  try clear p2
  obtain ⟨x5_1, x11_1, x1000_1, x1001_1, x1002_1, x1003_1, x1004_1, x1005_1, x1006_1, x1007_1, x1008_1, rfl, rfl, HA, HK1, HI0, HK, HB⟩ := hrel
  cases gk with
  | zero => exact absurd HA.out (by simp [backfillref12_Ledger_Sum.l0])
  | succ k1 =>
   have H := HA.out
   clear HA
   simp only [backfillref12_Ledger_Sum.l0] at H
   by_cases c3 : x11_1 < (l1.length : Int)
   ·rw [if_pos c3] at H
    have c3b0 : decide (x11_1 < (l1.length : Int)) = true := decide_eq_true c3
    clear c3
    by_cases c4 : 0 ≤ x11_1
    ·rw [if_pos c4] at H
     have c4b0 : decide (0 ≤ x11_1) = true := decide_eq_true c4
     clear c4
     by_cases c5 : x11_1 < (l1.length : Int)
     ·rw [if_pos c5] at H
      have c5b0 : decide (x11_1 < (l1.length : Int)) = true := decide_eq_true c5
      clear c5; replace H := Option.bind_eq_some_iff.mp H; obtain ⟨⟨t419, t420, t421, t422, t423, t424, t425, t426, t427, t428⟩, A60, H⟩ := H; replace H : (if (IntKind.u64.wrap (x5_1 + t419)) < x5_1 then (some (18446744073709551615, t420, t421, t422, t423, t424, t425, t426, t427, t428)) else (backfillref12_Ledger_Sum.l0 k1 (IntKind.u64.wrap (x5_1 + t419)) l1 (l1.length : Int) (wrap64 (x11_1 + 1)) t420 t421 t422 t423 t424 t425 t426 t427 t428 s0_9)) = some (r1, r2, r3, r4, r5, r6, r7, r8, r9, r10) := H; have A6 := Aside0.mk A60; clear A60
      by_cases c7 : (IntKind.u64.wrap (x5_1 + t419)) < x5_1
      ·rw [if_pos c7] at H
       have c7b0 : decide ((IntKind.u64.wrap (x5_1 + t419)) < x5_1) = true := decide_eq_true c7
       clear c7
       simp only [Option.some.injEq, Prod.mk.injEq] at H
       obtain ⟨rfl, rfl, rfl, rfl, rfl, rfl, rfl, rfl, rfl, rfl⟩ := H
       have p418 : 0 ≤ (x11_1 : Int) := of_decide_eq_true (by first | (with_reducible assumption) | assumption)
       have q418 : x11_1 < (l1.length : Int) := of_decide_eq_true (by first | (with_reducible assumption) | assumption)
       obtain ⟨ad418, e418, hx418_0⟩ := Kd.at_int HR1.out x11_1 p418 q418
       cases e418
       replace hx418_0 := keep_cell HK.out hx418_0 (by first | (rw [add_block]; exact hf1 _ rfl (by omega)) | exact hf1 _ rfl (by omega) | exact hf1 ad418 rfl (by omega))
       replace p418 := eq_true p418
       replace q418 := eq_true q418
       go_wp2_with (first | ((with_reducible refine gate_callee (f := 39) rfl ?_); refine goesL_ (some 17) rfl rfl Tryd.func39 (by kernel_rfl) rfl #[.pointer (some ⟨g, 0, none⟩), .int .i64 (rd l1 x11_1)] rfl aA ?_; (with_reducible refine (backfillref12_Ledger_Own.calls g x1000_1 x1001_1 x1002_1 x1003_1 x1004_1 x1005_1 x1006_1 x1007_1 x1008_1 s0_9 (rd l1 x11_1) t419 t420 t421 t422 t423 t424 t425 t426 t427 t428 w0 _ ?side1 ?side2 A6.out).mono ?_); (case side1 => repeat (first | (with_reducible first | exact HI0.out | apply IsS73.alloc | apply IsS73.drewN | apply IsS73.drew | apply IsS73.set_0 | apply IsS73.set_1 | apply IsS73.set_2 | apply IsS73.set_3 | apply IsS73.set_4 | apply IsS73.set_5 | apply IsS73.set_6 | apply IsS73.set_7 | apply IsS73.set_8) | exact HI0.out)); (case side2 => repeat (first | (with_reducible first | exact HB.out | apply below_alloc | apply pw_below_drewN | apply below_drew1 | refine below_set ?_ (IsS73.ge HI0.out)) | exact HB.out)); rintro e w8 ⟨rfl, hi, hb, hk⟩; refine ⟨_, rfl, ?_⟩; have n0_ := Aside0.mk (KeepBut.trans (by repeat (first | (with_reducible first | exact HK.out | apply KeepBut.set_ | apply keep_drewN | apply keep_drew | apply keep_alloc) | exact HK.out)) hk (.inl rfl)); have n1_ := Aside0.mk (hb); have n2_ := Aside0.mk (hi); clear HK HB HI0; have HK := n0_; have HB := n1_; have HI0 := n2_; clear n0_ n1_ n2_; (try clear hb)))
       go_ret
       exact ⟨by first | rfl | (simp [errW_none, errW_some] <;> rfl) | (simp [*, errW_none, errW_some] <;> rfl), by repeat (first | (with_reducible first | exact HI0.out | apply IsS73.alloc | apply IsS73.drewN | apply IsS73.drew | apply IsS73.set_0 | apply IsS73.set_1 | apply IsS73.set_2 | apply IsS73.set_3 | apply IsS73.set_4 | apply IsS73.set_5 | apply IsS73.set_6 | apply IsS73.set_7 | apply IsS73.set_8) | exact HI0.out), by repeat (first | (with_reducible first | exact HB.out | apply below_alloc | apply pw_below_drewN | apply below_drew1 | refine below_set ?_ (IsS73.ge HI0.out)) | exact HB.out), by repeat (first | (with_reducible first | exact HK.out | apply KeepBut.set_ | apply keep_drewN | apply keep_drew | apply keep_alloc) | exact HK.out)⟩
      ·rw [if_neg c7] at H
       have c7b0 : decide ((IntKind.u64.wrap (x5_1 + t419)) < x5_1) = false := decide_eq_false c7
       clear c7
       have H' := Aside0.mk H
       clear H
       have p418 : 0 ≤ (x11_1 : Int) := of_decide_eq_true (by first | (with_reducible assumption) | assumption)
       have q418 : x11_1 < (l1.length : Int) := of_decide_eq_true (by first | (with_reducible assumption) | assumption)
       obtain ⟨ad418, e418, hx418_0⟩ := Kd.at_int HR1.out x11_1 p418 q418
       cases e418
       replace hx418_0 := keep_cell HK.out hx418_0 (by first | (rw [add_block]; exact hf1 _ rfl (by omega)) | exact hf1 _ rfl (by omega) | exact hf1 ad418 rfl (by omega))
       replace p418 := eq_true p418
       replace q418 := eq_true q418
       go_wp2_with (first | ((with_reducible refine gate_callee (f := 39) rfl ?_); refine goesL_ (some 17) rfl rfl Tryd.func39 (by kernel_rfl) rfl #[.pointer (some ⟨g, 0, none⟩), .int .i64 (rd l1 x11_1)] rfl aA ?_; (with_reducible refine (backfillref12_Ledger_Own.calls g x1000_1 x1001_1 x1002_1 x1003_1 x1004_1 x1005_1 x1006_1 x1007_1 x1008_1 s0_9 (rd l1 x11_1) t419 t420 t421 t422 t423 t424 t425 t426 t427 t428 w0 _ ?side1 ?side2 A6.out).mono ?_); (case side1 => repeat (first | (with_reducible first | exact HI0.out | apply IsS73.alloc | apply IsS73.drewN | apply IsS73.drew | apply IsS73.set_0 | apply IsS73.set_1 | apply IsS73.set_2 | apply IsS73.set_3 | apply IsS73.set_4 | apply IsS73.set_5 | apply IsS73.set_6 | apply IsS73.set_7 | apply IsS73.set_8) | exact HI0.out)); (case side2 => repeat (first | (with_reducible first | exact HB.out | apply below_alloc | apply pw_below_drewN | apply below_drew1 | refine below_set ?_ (IsS73.ge HI0.out)) | exact HB.out)); rintro e w9 ⟨rfl, hi, hb, hk⟩; refine ⟨_, rfl, ?_⟩; have n0_ := Aside0.mk (KeepBut.trans (by repeat (first | (with_reducible first | exact HK.out | apply KeepBut.set_ | apply keep_drewN | apply keep_drew | apply keep_alloc) | exact HK.out)) hk (.inl rfl)); have n1_ := Aside0.mk (hb); have n2_ := Aside0.mk (hi); clear HK HB HI0; have HK := n0_; have HB := n1_; have HI0 := n2_; clear n0_ n1_ n2_; (try clear hb)))
       go_roundg k1
       case measure => have := HK1.out; omega
       case rel => exact ⟨(IntKind.u64.wrap (x5_1 + t419)), (wrap64 (x11_1 + 1)), (t420), (t421), (t422), (t423), (t424), (t425), (t426), (t427), (t428), (by first | rfl | (simp; done) | (simp [*]; done)), (by first | rfl | (simp; done) | (simp [*]; done)), H', ⟨by have := HK1.out; omega⟩, ⟨by repeat (first | (with_reducible first | exact HI0.out | apply IsS73.alloc | apply IsS73.drewN | apply IsS73.drew | apply IsS73.set_0 | apply IsS73.set_1 | apply IsS73.set_2 | apply IsS73.set_3 | apply IsS73.set_4 | apply IsS73.set_5 | apply IsS73.set_6 | apply IsS73.set_7 | apply IsS73.set_8) | exact HI0.out)⟩, ⟨by repeat (first | (with_reducible first | exact HK.out | apply KeepBut.set_ | apply keep_drewN | apply keep_drew | apply keep_alloc) | exact HK.out)⟩, ⟨by repeat (first | (with_reducible first | exact HB.out | apply below_alloc | apply pw_below_drewN | apply below_drew1 | refine below_set ?_ (IsS73.ge HI0.out)) | exact HB.out)⟩⟩
     ·rw [if_neg c5] at H
      exact absurd H (by simp)
    ·rw [if_neg c4] at H
     exact absurd H (by simp)
   ·rw [if_neg c3] at H
    have c3b0 : decide (x11_1 < (l1.length : Int)) = false := decide_eq_false c3
    clear c3
    simp only [Option.some.injEq, Prod.mk.injEq] at H
    obtain ⟨rfl, rfl, rfl, rfl, rfl, rfl, rfl, rfl, rfl, rfl⟩ := H
    go_wp2
    go_ret
    exact ⟨by first | rfl | (simp [errW_none, errW_some] <;> rfl) | (simp [*, errW_none, errW_some] <;> rfl), by repeat (first | (with_reducible first | exact HI0.out | apply IsS73.alloc | apply IsS73.drewN | apply IsS73.drew | apply IsS73.set_0 | apply IsS73.set_1 | apply IsS73.set_2 | apply IsS73.set_3 | apply IsS73.set_4 | apply IsS73.set_5 | apply IsS73.set_6 | apply IsS73.set_7 | apply IsS73.set_8) | exact HI0.out), by repeat (first | (with_reducible first | exact HB.out | apply below_alloc | apply pw_below_drewN | apply below_drew1 | refine below_set ?_ (IsS73.ge HI0.out)) | exact HB.out), by repeat (first | (with_reducible first | exact HK.out | apply KeepBut.set_ | apply keep_drewN | apply keep_drew | apply keep_alloc) | exact HK.out)⟩

-- NOT PRINTED: function 3 (backfilllaw12_LedgerScript)

-- NOT PRINTED: function 4 (backfilllaw12_LedgerLess)

-- NOT PRINTED: function 5 (backfilllaw12_LedgerApart)

/-! ### backfilllaw12_has: function 27 -/
def backfilllaw12_has.l0 : Nat → Int → List Int → Int → Int → Option (Bool)
 | 0, _, _, _, _ => none
 | k + 1, x1, x7, x8, x9 => if x9 < x8 then (if 0 ≤ x9 then (if x9 < (x7.length : Int) then (if (rd x7 x9) = x1 then (some true) else (backfilllaw12_has.l0 k x1 x7 x8 (wrap64 (x9 + 1)))) else (none)) else (none)) else (some false)
def backfilllaw12_has.f (k : Nat) (l0 : List Int) (a1 : Int) : Option (Bool) := backfilllaw12_has.l0 k a1 l0 (l0.length : Int) 0
theorem backfilllaw12_has.mono_l : ∀ k, (∀ y0 y1 y2 y3, LeO (backfilllaw12_has.l0 k y0 y1 y2 y3) (backfilllaw12_has.l0 (k + 1) y0 y1 y2 y3))
 | 0 => fun _ _ _ _ r h => by simp [backfilllaw12_has.l0] at h
 | k + 1 => by
  have ih0 := backfilllaw12_has.mono_l k
  ·intro y0 y1 y2 y3
   unfold backfilllaw12_has.l0
   repeat' first
   | (with_reducible exact ih0 _ _ _ _)
   | (with_reducible exact LeO.refl _)
   | (with_reducible exact LeO.none _)
   | (with_reducible refine LeO.ite ?_ ?_)
   | (with_reducible refine LeO.bind ?_ (fun _ => ?_))
   | exact ih0 _ _ _ _
   | exact LeO.none _
   | refine LeO.ite ?_ ?_
   | refine LeO.bind ?_ (fun _ => ?_)
theorem backfilllaw12_has.mono : ∀ a0 a1 k, LeO (backfilllaw12_has.f k a0 a1) (backfilllaw12_has.f (k + 1) a0 a1) := by
 intro a0 a1 k
 have ih0 := backfilllaw12_has.mono_l k
 unfold backfilllaw12_has.f
 repeat' first
   | (with_reducible exact ih0 _ _ _ _)
   | (with_reducible exact LeO.refl _)
   | (with_reducible exact LeO.none _)
   | (with_reducible refine LeO.ite ?_ ?_)
   | (with_reducible refine LeO.bind ?_ (fun _ => ?_))
   | exact ih0 _ _ _ _
   | exact LeO.none _
   | refine LeO.ite ?_ ?_
   | refine LeO.bind ?_ (fun _ => ?_)
set_option maxHeartbeats 8000000 in
set_option maxRecDepth 100000 in
theorem backfilllaw12_has.calls (k : Nat) (A0 : Option Addr) (c0 : Nat) (l0 : List Int) (a1 : Int) (r : Bool) (w : World) (hr0 : Kd.C (Kd.int .i64) w A0 l0.length l0) (hc0 : l0.length ≤ c0) (h : backfilllaw12_has.f k l0 a1 = some r) :
  Calls Tryd.prog 27 #[.slice A0 l0.length c0, .int .i64 a1] w fun e w' => e = .returned (.bool r) ∧ Drawn0 w w' := by
 have HR0 := Aside0.mk hr0
 have HC0 := Aside0.mk hc0
 clear hr0 hc0
 have H : (backfilllaw12_has.l0 k a1 l0 (l0.length : Int) 0) = some r := h
 clear h
 have H' := Aside0.mk H
 clear H
 go_enter Tryd.func27, Tryd.ntmps27
 go_wp2
 go_loopg [9] k (fun kq v9 w' => ∃ (x9_1 : Int), v9 = .int .i64 x9_1 ∧ Aside0 (backfilllaw12_has.l0 kq a1 l0 (l0.length : Int) x9_1 = some r) ∧ Aside0 (kq ≤ k) ∧ Drawn0 w w')
 case atStart => exact ⟨(0), (by first | rfl | (simp; done) | (simp [*]; done)), H', ⟨Nat.le_refl _⟩, by repeat (first | exact Drawn0.refl _ | apply Drawn0.step)⟩
 case round =>
  clear H'
  try clear c2
  try clear p2
  obtain ⟨x9_1, rfl, HA, HK1, ⟨m1, rfl⟩⟩ := hrel
  cases gk with
  | zero => exact absurd HA.out (by simp [backfilllaw12_has.l0])
  | succ k1 =>
   have H := HA.out
   clear HA
   simp only [backfilllaw12_has.l0] at H
   by_cases c3 : x9_1 < (l0.length : Int)
   ·rw [if_pos c3] at H
    have c3b0 : decide (x9_1 < (l0.length : Int)) = true := decide_eq_true c3
    clear c3
    by_cases c4 : 0 ≤ x9_1
    ·rw [if_pos c4] at H
     have c4b0 : decide (0 ≤ x9_1) = true := decide_eq_true c4
     clear c4
     by_cases c5 : x9_1 < (l0.length : Int)
     ·rw [if_pos c5] at H
      have c5b0 : decide (x9_1 < (l0.length : Int)) = true := decide_eq_true c5
      clear c5
      by_cases c6 : (rd l0 x9_1) = a1
      ·rw [if_pos c6] at H
       have c6b0 : ((rd l0 x9_1) == a1) = true := beq_iff_eq.mpr c6
       have c6b1 : ((rd l0 x9_1) != a1) = false := bne_eq_false_iff_eq.mpr c6
       clear c6
       obtain rfl := Option.some.inj H
       have p432 : 0 ≤ (x9_1 : Int) := of_decide_eq_true (by first | (with_reducible assumption) | assumption)
       have q432 : x9_1 < (l0.length : Int) := of_decide_eq_true (by first | (with_reducible assumption) | assumption)
       obtain ⟨ad432, e432, hx432_0⟩ := Kd.at_int HR0.out x9_1 p432 q432
       cases e432
       replace p432 := eq_true p432
       replace q432 := eq_true q432
       go_wp2
       go_ret
       exact ⟨by first | rfl | (simp; done) | (simp [*]; done), by repeat (first | exact Drawn0.refl _ | apply Drawn0.step)⟩
      ·rw [if_neg c6] at H
       have c6b0 : ((rd l0 x9_1) == a1) = false := beq_eq_false_iff_ne.mpr c6
       have c6b1 : ((rd l0 x9_1) != a1) = true := bne_iff_ne.mpr c6
       have H' := Aside0.mk H
       clear H
       have p432 : 0 ≤ (x9_1 : Int) := of_decide_eq_true (by first | (with_reducible assumption) | assumption)
       have q432 : x9_1 < (l0.length : Int) := of_decide_eq_true (by first | (with_reducible assumption) | assumption)
       obtain ⟨ad432, e432, hx432_0⟩ := Kd.at_int HR0.out x9_1 p432 q432
       cases e432
       replace p432 := eq_true p432
       replace q432 := eq_true q432
       go_wp2
       go_roundg k1
       case measure => have := HK1.out; omega
       case rel => exact ⟨(wrap64 (x9_1 + 1)), (by first | rfl | (simp; done) | (simp [*]; done)), H', ⟨by have := HK1.out; omega⟩, by repeat (first | exact Drawn0.refl _ | apply Drawn0.step)⟩
     ·rw [if_neg c5] at H
      exact absurd H (by simp)
    ·rw [if_neg c4] at H
     exact absurd H (by simp)
   ·rw [if_neg c3] at H
    have c3b0 : decide (x9_1 < (l0.length : Int)) = false := decide_eq_false c3
    clear c3
    obtain rfl := Option.some.inj H
    go_wp2
    go_ret
    exact ⟨by first | rfl | (simp; done) | (simp [*]; done), by repeat (first | exact Drawn0.refl _ | apply Drawn0.step)⟩

-- NOT PRINTED: function 7 (backfilllaw12_LedgerAdds)

end Go.Proofs.YtgjjfnjnjnbfgaaDoor.GLG
