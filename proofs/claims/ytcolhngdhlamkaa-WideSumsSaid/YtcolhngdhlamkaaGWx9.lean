-- Laid by a program of this session (wip/tools/pr.py): contracts and pure functions; Lean checks it.
import Derived.Test.YtcolhngdhlamkaaGWx0
namespace Go.Proofs.Ytcolhngdhlamkaa.GW
open Go.RowKit Go.Proofs.YtcolhngdhlamkaaW.PrintWords Go.Proofs.YtcolhngdhlamkaaW.PrintLast Go.Proofs.YtcolhngdhlamkaaW.PrintMore
attribute [local go_sem] max2_int min2_int max_two min_two max_three min_three max_four min_four   -- for this text's walks alone
set_option linter.unusedVariables false
set_option linter.unusedSimpArgs false

/-! ### backfillref01_Shl: function 19 -/
def backfillref01_Shl.f (a0_0 : Int) (a0_1 : Int) (a1 : Int) : Option (Int × Int) := if a1 < 1 then (some (a0_0, a0_1)) else (if a1 ≥ 128 then (some (0, 0)) else (if a1 ≥ 64 then (if 0 ≤ (wrap64 (a1 - 64)) then (some (shl .u64 a0_1 (wrap64 (a1 - 64)), 0)) else (none)) else (if 0 ≤ a1 then (if 0 ≤ (wrap64 (64 - a1)) then (some (IntKind.u64.wrap ((shl .u64 a0_0 a1) + (shr .u64 a0_1 (wrap64 (64 - a1)))), shl .u64 a0_1 a1)) else (none)) else (none))))
def backfillref01_Shl.T7 : Bool × List (List Nat × List Nat) := (true, [([], []), ([0], [0]), ([], []), ([1, 2], [1, 2]), ([], []), ([4], [4]), ([], []), ([6], [6]), ([5, 7], [5, 7]), ([3, 8], [3, 8]), ([], []), ([10], [10]), ([], []), ([11, 12], [11, 12]), ([9, 13], [9, 13]), ([14, 0, 1, 2, 3, 4, 5, 6, 7, 8, 9, 10, 11, 12, 13, 14], [14])])
def backfillref01_Shl.B7 : List Nat := [0, 1, 0, 7, 0, 16, 0, 64, 240, 511, 0, 1024, 0, 7168, 16383, 32767]
theorem backfillref01_Shl.tab7 : rtab .any (opsOf Try.f19 7) = backfillref01_Shl.T7 := by kernel_rfl
theorem backfillref01_Shl.bits7 : waitsOk backfillref01_Shl.T7.2 backfillref01_Shl.B7 = true := by kernel_rfl
set_option maxHeartbeats 8000000 in
set_option maxRecDepth 100000 in
theorem backfillref01_Shl.calls (a0_0 : Int) (a0_1 : Int) (a1 : Int) (r1 : Int) (r2 : Int) (w : World) (h : backfillref01_Shl.f a0_0 a0_1 a1 = some (r1, r2)) :
  Calls Try.prog 19 #[.agg #[.int .u64 a0_0, .int .u64 a0_1], .int .i64 a1] w fun e w' => e = .returned (.agg #[.int .u64 r1, .int .u64 r2]) ∧ Below w.heap.size w w' := by
 have hu28 := Try.underlying28
 have HB := Aside0.mk (Below.refl w.heap.size w)
 have H : (if a1 < 1 then (some (a0_0, a0_1)) else (if a1 ≥ 128 then (some (0, 0)) else (if a1 ≥ 64 then (if 0 ≤ (wrap64 (a1 - 64)) then (some (shl .u64 a0_1 (wrap64 (a1 - 64)), 0)) else (none)) else (if 0 ≤ a1 then (if 0 ≤ (wrap64 (64 - a1)) then (some (IntKind.u64.wrap ((shl .u64 a0_0 a1) + (shr .u64 a0_1 (wrap64 (64 - a1)))), shl .u64 a0_1 a1)) else (none)) else (none))))) = some (r1, r2) := h
 clear h
 by_cases c3 : a1 < 1
 ·rw [if_pos c3] at H
  have c3b0 : decide (a1 < 1) = true := decide_eq_true c3
  clear c3
  simp only [Option.some.injEq, Prod.mk.injEq] at H
  obtain ⟨rfl, rfl⟩ := H
  go_enter Try.func19, Try.ntmps19
  go_wp2_with (first | ((with_reducible refine gate_dst (N := 2) rfl ?_); refine bxA 2 #[.int .u64 a0_0, .int .u64 a0_1] 28 ?_; intro gb260 hg w4 hbox hb; have n0_ := Aside0.mk (below_step bA hb); have n1_ := Aside0.mk (hbox); have n2_ := Aside0.mk ((by rw [hg]; exact (below_size bA) : w.heap.size ≤ gb260)); have n3_ := Aside0.mk ((by rw [hg]; exact (below_size bA) : w.heap.size ≤ gb260)); clear HB; have HB := n0_; have BK260 := n1_; have GW260 := n2_; have GE260 := n3_; clear n0_ n1_ n2_ n3_ hb hbox hg) | ((with_reducible refine gate_dst (N := 4) rfl ?_); refine bxA 4 #[.int .u64 0, .int .u64 0] 28 ?_; intro gb261 hg w5 hbox hb; have n0_ := Aside0.mk (blk_below (g := gb260) (o := .cells #[.int .u64 a0_0, .int .u64 a0_1] 28 (0, 0)) kA hb); have n1_ := Aside0.mk (below_step bA hb); have n2_ := Aside0.mk (hbox); have n3_ := Aside0.mk ((by rw [hg]; exact (below_size bA) : w.heap.size ≤ gb261)); have n4_ := Aside0.mk ((by rw [hg]; exact (below_size bA) : w.heap.size ≤ gb261)); have n5_ := Aside0.mk ((by rw [hg]; exact Nat.ne_of_lt (blk_lt (g := gb260) (o := .cells #[.int .u64 a0_0, .int .u64 a0_1] 28 (0, 0)) kA) : gb260 ≠ gb261)); have n6_ := Aside0.mk ((by rw [hg]; exact Nat.ne_of_gt (blk_lt (g := gb260) (o := .cells #[.int .u64 a0_0, .int .u64 a0_1] 28 (0, 0)) kA) : gb261 ≠ gb260)); clear BK260 HB; have BK260 := n0_; have HB := n1_; have BK261 := n2_; have GW261 := n3_; have GE261 := n4_; have NB260_261 := n5_; have NB261_260 := n6_; clear n0_ n1_ n2_ n3_ n4_ n5_ n6_ hb hbox hg; have hnb6 := NB260_261.out; have hnc6 := NB261_260.out; have hcz7_0 : w5.cell? ⟨gb260, 0, none⟩ = some (.int .u64 a0_0) := (blk_cell BK260.out 0).trans rfl; have hcz7_1 : w5.cell? ⟨gb260, 1, none⟩ = some (.int .u64 a0_1) := (blk_cell BK260.out 1).trans rfl; have hfz7_0 := blk_frozen BK260.out 0; have hfz7_1 := blk_frozen BK260.out 1; have hcz8_0 : w5.cell? ⟨gb261, 0, none⟩ = some (.int .u64 0) := (blk_cell BK261.out 0).trans rfl; have hcz8_1 : w5.cell? ⟨gb261, 1, none⟩ = some (.int .u64 0) := (blk_cell BK261.out 1).trans rfl; have hfz8_0 := blk_frozen BK261.out 0; have hfz8_1 := blk_frozen BK261.out 1))
  refine bodyPost_ret (results_cell_row rfl _ _ gb261 28 #[.int .u64 a0_0, .int .u64 a0_1] (0, 0) _ rfl (by (with_reducible repeat (first | refine blk_drewN ?_ _ | refine blk_drew ?_ | refine blk_alloc ?_ _)); refine blk_put (cs := #[.int .u64 a0_0, .int .u64 0]) ?_ 1 _ rfl; (with_reducible repeat (first | refine blk_drewN ?_ _ | refine blk_drew ?_ | refine blk_alloc ?_ _)); refine blk_put (cs := #[.int .u64 0, .int .u64 0]) ?_ 0 _ rfl; (with_reducible repeat (first | refine blk_drewN ?_ _ | refine blk_drew ?_ | refine blk_alloc ?_ _)); exact BK261.out) Try.underlying28 rfl (by kernel_rfl)) rfl ?_
  exact ⟨by first | rfl | (simp [errW_none, errW_some] <;> rfl) | (simp [*, errW_none, errW_some] <;> rfl), bA⟩
 ·rw [if_neg c3] at H
  have c3b0 : decide (a1 < 1) = false := decide_eq_false c3
  clear c3
  by_cases c9 : a1 ≥ 128
  ·rw [if_pos c9] at H
   have c9b0 : decide (128 ≤ a1) = true := decide_eq_true c9
   clear c9
   simp only [Option.some.injEq, Prod.mk.injEq] at H
   obtain ⟨rfl, rfl⟩ := H
   go_enter Try.func19, Try.ntmps19
   go_wp2_with (first | ((with_reducible refine gate_dst (N := 2) rfl ?_); refine bxA 2 #[.int .u64 a0_0, .int .u64 a0_1] 28 ?_; intro gb260 hg w10 hbox hb; have n0_ := Aside0.mk (below_step bA hb); have n1_ := Aside0.mk (hbox); have n2_ := Aside0.mk ((by rw [hg]; exact (below_size bA) : w.heap.size ≤ gb260)); have n3_ := Aside0.mk ((by rw [hg]; exact (below_size bA) : w.heap.size ≤ gb260)); clear HB; have HB := n0_; have BK260 := n1_; have GW260 := n2_; have GE260 := n3_; clear n0_ n1_ n2_ n3_ hb hbox hg) | ((with_reducible refine gate_dst (N := 4) rfl ?_); refine bxA 4 #[.int .u64 0, .int .u64 0] 28 ?_; intro gb261 hg w11 hbox hb; have n0_ := Aside0.mk (blk_below (g := gb260) (o := .cells #[.int .u64 a0_0, .int .u64 a0_1] 28 (0, 0)) kA hb); have n1_ := Aside0.mk (below_step bA hb); have n2_ := Aside0.mk (hbox); have n3_ := Aside0.mk ((by rw [hg]; exact (below_size bA) : w.heap.size ≤ gb261)); have n4_ := Aside0.mk ((by rw [hg]; exact (below_size bA) : w.heap.size ≤ gb261)); have n5_ := Aside0.mk ((by rw [hg]; exact Nat.ne_of_lt (blk_lt (g := gb260) (o := .cells #[.int .u64 a0_0, .int .u64 a0_1] 28 (0, 0)) kA) : gb260 ≠ gb261)); have n6_ := Aside0.mk ((by rw [hg]; exact Nat.ne_of_gt (blk_lt (g := gb260) (o := .cells #[.int .u64 a0_0, .int .u64 a0_1] 28 (0, 0)) kA) : gb261 ≠ gb260)); clear BK260 HB; have BK260 := n0_; have HB := n1_; have BK261 := n2_; have GW261 := n3_; have GE261 := n4_; have NB260_261 := n5_; have NB261_260 := n6_; clear n0_ n1_ n2_ n3_ n4_ n5_ n6_ hb hbox hg; have hnb12 := NB261_260.out; have hnc12 := NB260_261.out; have hcz13_0 : w11.cell? ⟨gb261, 0, none⟩ = some (.int .u64 0) := (blk_cell BK261.out 0).trans rfl; have hcz13_1 : w11.cell? ⟨gb261, 1, none⟩ = some (.int .u64 0) := (blk_cell BK261.out 1).trans rfl; have hfz13_0 := blk_frozen BK261.out 0; have hfz13_1 := blk_frozen BK261.out 1))
   refine bodyPost_ret (results_cell_row rfl _ _ gb261 28 #[.int .u64 0, .int .u64 0] (0, 0) _ rfl (by (with_reducible repeat (first | refine blk_drewN ?_ _ | refine blk_drew ?_ | refine blk_alloc ?_ _)); refine blk_put (cs := #[.int .u64 0, .int .u64 0]) ?_ 1 _ rfl; (with_reducible repeat (first | refine blk_drewN ?_ _ | refine blk_drew ?_ | refine blk_alloc ?_ _)); refine blk_put (cs := #[.int .u64 0, .int .u64 0]) ?_ 0 _ rfl; (with_reducible repeat (first | refine blk_drewN ?_ _ | refine blk_drew ?_ | refine blk_alloc ?_ _)); exact BK261.out) Try.underlying28 rfl (by kernel_rfl)) rfl ?_
   exact ⟨by first | rfl | (simp [errW_none, errW_some] <;> rfl) | (simp [*, errW_none, errW_some] <;> rfl), bA⟩
  ·rw [if_neg c9] at H
   have c9b0 : decide (128 ≤ a1) = false := decide_eq_false c9
   clear c9
   by_cases c14 : a1 ≥ 64
   ·rw [if_pos c14] at H
    have c14b0 : decide (64 ≤ a1) = true := decide_eq_true c14
    clear c14
    obtain ⟨ji15, hji15⟩ : ∃ j_ : Int, (wrap64 (a1 - 64)) = j_ := ⟨_, rfl⟩
    replace H : (if 0 ≤ (ji15) then (some (shl .u64 a0_1 (ji15), 0)) else (none)) = some (r1, r2) := by first | (rw [hji15] at H; exact H) | (simp only [hji15] at H ⊢; exact H)
    have hji15w : (IntKind.i64.wrap (a1 - 64)) = ji15 := (i64_w _).trans hji15
    by_cases c16 : 0 ≤ (ji15)
    ·rw [if_pos c16] at H
     have c16b0 := eq_true c16
     have c16b1 : decide (0 ≤ (ji15)) = true := decide_eq_true c16
     clear c16
     obtain ⟨ji17, hji17⟩ : ∃ j_ : Int, (shl .u64 a0_1 (ji15)) = j_ := ⟨_, rfl⟩
     replace H : (some (ji17, 0)) = some (r1, r2) := by first | (rw [hji17] at H; exact H) | (simp only [hji17] at H ⊢; exact H)
     have hji17_ : (IntKind.u64.wrap (a0_1 * 2 ^ min (ji15).toNat 64)) = ji17 := hji17
     have hji17z : (ji15) ≤ 64 → (IntKind.u64.wrap (a0_1 * 2 ^ (ji15).toNat)) = ji17 := shl_small hji17
     simp only [Option.some.injEq, Prod.mk.injEq] at H
     obtain ⟨rfl, rfl⟩ := H
     go_enter Try.func19, Try.ntmps19
     go_wp2_with (first | ((with_reducible refine gate_dst (N := 2) rfl ?_); refine bxA 2 #[.int .u64 a0_0, .int .u64 a0_1] 28 ?_; intro gb260 hg w18 hbox hb; have n0_ := Aside0.mk (below_step bA hb); have n1_ := Aside0.mk (hbox); have n2_ := Aside0.mk ((by rw [hg]; exact (below_size bA) : w.heap.size ≤ gb260)); have n3_ := Aside0.mk ((by rw [hg]; exact (below_size bA) : w.heap.size ≤ gb260)); clear HB; have HB := n0_; have BK260 := n1_; have GW260 := n2_; have GE260 := n3_; clear n0_ n1_ n2_ n3_ hb hbox hg) | ((with_reducible refine gate_dst (N := 4) rfl ?_); refine bxA 4 #[.int .u64 0, .int .u64 0] 28 ?_; intro gb261 hg w19 hbox hb; have n0_ := Aside0.mk (blk_below (g := gb260) (o := .cells #[.int .u64 a0_0, .int .u64 a0_1] 28 (0, 0)) kA hb); have n1_ := Aside0.mk (below_step bA hb); have n2_ := Aside0.mk (hbox); have n3_ := Aside0.mk ((by rw [hg]; exact (below_size bA) : w.heap.size ≤ gb261)); have n4_ := Aside0.mk ((by rw [hg]; exact (below_size bA) : w.heap.size ≤ gb261)); have n5_ := Aside0.mk ((by rw [hg]; exact Nat.ne_of_lt (blk_lt (g := gb260) (o := .cells #[.int .u64 a0_0, .int .u64 a0_1] 28 (0, 0)) kA) : gb260 ≠ gb261)); have n6_ := Aside0.mk ((by rw [hg]; exact Nat.ne_of_gt (blk_lt (g := gb260) (o := .cells #[.int .u64 a0_0, .int .u64 a0_1] 28 (0, 0)) kA) : gb261 ≠ gb260)); clear BK260 HB; have BK260 := n0_; have HB := n1_; have BK261 := n2_; have GW261 := n3_; have GE261 := n4_; have NB260_261 := n5_; have NB261_260 := n6_; clear n0_ n1_ n2_ n3_ n4_ n5_ n6_ hb hbox hg; have hnb20 := NB260_261.out; have hnc20 := NB261_260.out; have hcz21_0 : w19.cell? ⟨gb260, 0, none⟩ = some (.int .u64 a0_0) := (blk_cell BK260.out 0).trans rfl; have hcz21_1 : w19.cell? ⟨gb260, 1, none⟩ = some (.int .u64 a0_1) := (blk_cell BK260.out 1).trans rfl; have hfz21_0 := blk_frozen BK260.out 0; have hfz21_1 := blk_frozen BK260.out 1; have hcz22_0 : w19.cell? ⟨gb261, 0, none⟩ = some (.int .u64 0) := (blk_cell BK261.out 0).trans rfl; have hcz22_1 : w19.cell? ⟨gb261, 1, none⟩ = some (.int .u64 0) := (blk_cell BK261.out 1).trans rfl; have hfz22_0 := blk_frozen BK261.out 0; have hfz22_1 := blk_frozen BK261.out 1))
     refine bodyPost_ret (results_cell_row rfl _ _ gb261 28 #[.int .u64 ji17, .int .u64 0] (0, 0) _ rfl (by (with_reducible repeat (first | refine blk_drewN ?_ _ | refine blk_drew ?_ | refine blk_alloc ?_ _)); refine blk_put (cs := #[.int .u64 ji17, .int .u64 0]) ?_ 1 _ rfl; (with_reducible repeat (first | refine blk_drewN ?_ _ | refine blk_drew ?_ | refine blk_alloc ?_ _)); refine blk_put (cs := #[.int .u64 0, .int .u64 0]) ?_ 0 _ rfl; (with_reducible repeat (first | refine blk_drewN ?_ _ | refine blk_drew ?_ | refine blk_alloc ?_ _)); exact BK261.out) Try.underlying28 rfl (by kernel_rfl)) rfl ?_
     exact ⟨by first | rfl | (simp [errW_none, errW_some] <;> rfl) | (simp only [← hji15, ← hji17]; first | rfl | (simp [errW_none, errW_some] <;> rfl)) | (simp [*, errW_none, errW_some] <;> rfl), bA⟩
    ·rw [if_neg c16] at H
     exact absurd H (by simp)
   ·rw [if_neg c14] at H
    have c14b0 : decide (64 ≤ a1) = false := decide_eq_false c14
    clear c14
    by_cases c23 : 0 ≤ a1
    ·rw [if_pos c23] at H
     have c23b0 := eq_true c23
     have c23b1 : decide (0 ≤ a1) = true := decide_eq_true c23
     clear c23
     obtain ⟨ji24, hji24⟩ : ∃ j_ : Int, (shl .u64 a0_0 a1) = j_ := ⟨_, rfl⟩
     replace H : (if 0 ≤ (wrap64 (64 - a1)) then (some (IntKind.u64.wrap ((ji24) + (shr .u64 a0_1 (wrap64 (64 - a1)))), shl .u64 a0_1 a1)) else (none)) = some (r1, r2) := by first | (rw [hji24] at H; exact H) | (simp only [hji24] at H ⊢; exact H)
     have hji24_ : (IntKind.u64.wrap (a0_0 * 2 ^ min a1.toNat 64)) = ji24 := hji24
     have hji24z : a1 ≤ 64 → (IntKind.u64.wrap (a0_0 * 2 ^ a1.toNat)) = ji24 := shl_small hji24
     obtain ⟨ji25, hji25⟩ : ∃ j_ : Int, (wrap64 (64 - a1)) = j_ := ⟨_, rfl⟩
     replace H : (if 0 ≤ (ji25) then (some (IntKind.u64.wrap ((ji24) + (shr .u64 a0_1 (ji25))), shl .u64 a0_1 a1)) else (none)) = some (r1, r2) := by first | (rw [hji25] at H; exact H) | (simp only [hji25] at H ⊢; exact H)
     have hji25w : (IntKind.i64.wrap (64 - a1)) = ji25 := (i64_w _).trans hji25
     by_cases c26 : 0 ≤ (ji25)
     ·rw [if_pos c26] at H
      have c26b0 := eq_true c26
      have c26b1 : decide (0 ≤ (ji25)) = true := decide_eq_true c26
      clear c26
      obtain ⟨ji27, hji27⟩ : ∃ j_ : Int, (shr .u64 a0_1 (ji25)) = j_ := ⟨_, rfl⟩
      replace H : (some (IntKind.u64.wrap ((ji24) + (ji27)), shl .u64 a0_1 a1)) = some (r1, r2) := by first | (rw [hji27] at H; exact H) | (simp only [hji27] at H ⊢; exact H)
      have hji27_ : (a0_1 / 2 ^ min (ji25).toNat 64) = ji27 := hji27
      have hji27z : (ji25) ≤ 64 → (a0_1 / 2 ^ (ji25).toNat) = ji27 := shr_small hji27
      have c28b0 := eq_true (of_decide_eq_true (by first | (with_reducible assumption) | assumption) : 0 ≤ a1)
      obtain ⟨ji29, hji29⟩ : ∃ j_ : Int, (shl .u64 a0_1 a1) = j_ := ⟨_, rfl⟩
      replace H : (some (IntKind.u64.wrap ((ji24) + (ji27)), ji29)) = some (r1, r2) := by first | (rw [hji29] at H; exact H) | (simp only [hji29] at H ⊢; exact H)
      have hji29_ : (IntKind.u64.wrap (a0_1 * 2 ^ min a1.toNat 64)) = ji29 := hji29
      have hji29z : a1 ≤ 64 → (IntKind.u64.wrap (a0_1 * 2 ^ a1.toNat)) = ji29 := shl_small hji29
      simp only [Option.some.injEq, Prod.mk.injEq] at H
      obtain ⟨rfl, rfl⟩ := H
      go_enter Try.func19, Try.ntmps19
      try go_wp2_with (first | ((with_reducible refine gate_dst (N := 2) rfl ?_); refine bxA 2 #[.int .u64 a0_0, .int .u64 a0_1] 28 ?_; intro gb260 hg w30 hbox hb; have n0_ := Aside0.mk (below_step bA hb); have n1_ := Aside0.mk (hbox); have n2_ := Aside0.mk ((by rw [hg]; exact (below_size bA) : w.heap.size ≤ gb260)); have n3_ := Aside0.mk ((by rw [hg]; exact (below_size bA) : w.heap.size ≤ gb260)); clear HB; have HB := n0_; have BK260 := n1_; have GW260 := n2_; have GE260 := n3_; clear n0_ n1_ n2_ n3_ hb hbox hg) | ((with_reducible refine gate_dst (N := 4) rfl ?_); refine bxA 4 #[.int .u64 0, .int .u64 0] 28 ?_; intro gb261 hg w31 hbox hb; have n0_ := Aside0.mk (blk_below (g := gb260) (o := .cells #[.int .u64 a0_0, .int .u64 a0_1] 28 (0, 0)) kA hb); have n1_ := Aside0.mk (below_step bA hb); have n2_ := Aside0.mk (hbox); have n3_ := Aside0.mk ((by rw [hg]; exact (below_size bA) : w.heap.size ≤ gb261)); have n4_ := Aside0.mk ((by rw [hg]; exact (below_size bA) : w.heap.size ≤ gb261)); have n5_ := Aside0.mk ((by rw [hg]; exact Nat.ne_of_lt (blk_lt (g := gb260) (o := .cells #[.int .u64 a0_0, .int .u64 a0_1] 28 (0, 0)) kA) : gb260 ≠ gb261)); have n6_ := Aside0.mk ((by rw [hg]; exact Nat.ne_of_gt (blk_lt (g := gb260) (o := .cells #[.int .u64 a0_0, .int .u64 a0_1] 28 (0, 0)) kA) : gb261 ≠ gb260)); clear BK260 HB; have BK260 := n0_; have HB := n1_; have BK261 := n2_; have GW261 := n3_; have GE261 := n4_; have NB260_261 := n5_; have NB261_260 := n6_; clear n0_ n1_ n2_ n3_ n4_ n5_ n6_ hb hbox hg))
      have n0_ := Aside0.mk (blk_drew BK260.out); have n1_ := Aside0.mk (blk_drew BK261.out); have n2_ := Aside0.mk (below_drew1 HB.out); clear BK260 BK261 HB; have BK260 := n0_; have BK261 := n1_; have HB := n2_; clear n0_ n1_ n2_
      refine start_ (n := 16) (S := fun w' => w'.cell? ⟨gb260, 0, none⟩ = some (.int .u64 a0_0) ∧ w'.cell? ⟨gb260, 1, none⟩ = some (.int .u64 a0_1)) (ds := []) #[false, false, false, false, false, false, false, false, false, false, false, false, false, false, false, false] (by kernel_rfl) rfl rfl ⟨(blk_cell BK260.out 0).trans rfl, (blk_cell BK260.out 1).trans rfl⟩ (fun hHeld => ?_); refine with_tabW backfillref01_Shl.tab7 backfillref01_Shl.bits7 (fun HT_ HW_ => ?_)
      generalize w31.drew = w32 at BK260 BK261 HB hHeld ⊢
      refine pure_ (i := 0) (N := some 19) (v := ?_) (a' := ?_) #[true, false, false, false, false, false, false, false, false, false, false, false, false, false, false, false] rfl rfl (any_of HT_.out (by kernel_rfl)) (fun _ _ _ h => h) (Or.inl ⟨by rfl, ?_⟩) ?_ ?_
      rotate_left
      ·intro w'
       go_simp; with_reducible rfl
      rotate_left
      ·simp only [Act.put, List.setIfInBounds_toArray, List.set_cons_zero, List.set_cons_succ, i64_w, i32_w]
       rfl
      refine pure_ (i := 2) (N := some 21) (v := ?_) (a' := ?_) #[true, false, true, false, false, false, false, false, false, false, false, false, false, false, false, false] rfl rfl (any_of HT_.out (by kernel_rfl)) (fun _ _ _ h => h) (Or.inl ⟨by rfl, ?_⟩) ?_ ?_
      rotate_left
      ·intro w'
       go_simp; with_reducible rfl
      rotate_left
      ·simp only [Act.put, List.setIfInBounds_toArray, List.set_cons_zero, List.set_cons_succ, i64_w, i32_w]
       rfl
      refine pure_ (i := 4) (N := some 23) (v := ?_) (a' := ?_) #[true, false, true, false, true, false, false, false, false, false, false, false, false, false, false, false] rfl rfl (any_of HT_.out (by kernel_rfl)) (fun _ _ _ h => h) (Or.inl ⟨by rfl, ?_⟩) ?_ ?_
      rotate_left
      ·intro w'
       go_simp; with_reducible rfl
      rotate_left
      ·simp only [Act.put, List.setIfInBounds_toArray, List.set_cons_zero, List.set_cons_succ, i64_w, i32_w]
       rfl
      refine pure_ (i := 6) (N := some 25) (v := ?_) (a' := ?_) #[true, false, true, false, true, false, true, false, false, false, false, false, false, false, false, false] rfl rfl (any_of HT_.out (by kernel_rfl)) (fun _ _ _ h => h) (Or.inl ⟨by rfl, ?_⟩) ?_ ?_
      rotate_left
      ·intro w'
       go_simp; with_reducible rfl
      rotate_left
      ·simp only [Act.put, List.setIfInBounds_toArray, List.set_cons_zero, List.set_cons_succ, i64_w, i32_w]
       rfl
      refine pure_ (i := 7) (N := some 26) (v := ?_) (a' := ?_) #[true, false, true, false, true, false, true, true, false, false, false, false, false, false, false, false] rfl rfl (any_of HT_.out (by kernel_rfl)) (fun _ _ _ h => h) (Or.inl ⟨by rfl, ?_⟩) ?_ ?_
      rotate_left
      ·intro w'
       go_simp; with_reducible rfl
      rotate_left
      ·simp only [Act.put, List.setIfInBounds_toArray, List.set_cons_zero, List.set_cons_succ, i64_w, i32_w]
       rfl
      refine pure_ (i := 10) (N := some 29) (v := ?_) (a' := ?_) #[true, false, true, false, true, false, true, true, false, false, true, false, false, false, false, false] rfl rfl (any_of HT_.out (by kernel_rfl)) (fun _ _ _ h => h) (Or.inl ⟨by rfl, ?_⟩) ?_ ?_
      rotate_left
      ·intro w'
       go_simp; with_reducible rfl
      rotate_left
      ·simp only [Act.put, List.setIfInBounds_toArray, List.set_cons_zero, List.set_cons_succ, i64_w, i32_w]
       rfl
      refine pure_ (i := 12) (N := some 31) (v := ?_) (a' := ?_) #[true, false, true, false, true, false, true, true, false, false, true, false, true, false, false, false] rfl rfl (any_of HT_.out (by kernel_rfl)) (fun _ _ _ h => h) (Or.inl ⟨by rfl, ?_⟩) ?_ ?_
      rotate_left
      ·intro w'
       go_simp; with_reducible rfl
      rotate_left
      ·simp only [Act.put, List.setIfInBounds_toArray, List.set_cons_zero, List.set_cons_succ, i64_w, i32_w]
       rfl
      refine take_ (i := 1) (N := some 20) (v := ?_) (a' := ?_) #[true, true, true, false, true, false, true, true, false, false, true, false, true, false, false, false] rfl rfl (take_ofW HT_.out HW_.out (by kernel_rfl)) (fun _ _ _ h => h) (Or.inl ⟨by rfl, ?_⟩) hHeld ?_ ?_
      rotate_left
      ·rintro w' ⟨s0, s1⟩
       go_simp; with_reducible rfl
      rotate_left
      ·simp only [Act.put, List.setIfInBounds_toArray, List.set_cons_zero, List.set_cons_succ, i64_w, i32_w]
       rfl
      refine pure_ (i := 3) (N := some 22) (v := ?_) (a' := ?_) #[true, true, true, true, true, false, true, true, false, false, true, false, true, false, false, false] rfl rfl (any_of HT_.out (by kernel_rfl)) (fun _ _ _ h => h) (Or.inl ⟨by rfl, ?_⟩) ?_ ?_
      rotate_left
      ·intro w'
       go_simp; with_reducible rfl
      rotate_left
      ·simp only [Act.put, List.setIfInBounds_toArray, List.set_cons_zero, List.set_cons_succ, i64_w, i32_w]
       rfl
      refine take_ (i := 5) (N := some 24) (v := ?_) (a' := ?_) #[true, true, true, true, true, true, true, true, false, false, true, false, true, false, false, false] rfl rfl (take_ofW HT_.out HW_.out (by kernel_rfl)) (fun _ _ _ h => h) (Or.inl ⟨by rfl, ?_⟩) hHeld ?_ ?_
      rotate_left
      ·rintro w' ⟨s0, s1⟩
       go_simp; with_reducible rfl
      rotate_left
      ·simp only [Act.put, List.setIfInBounds_toArray, List.set_cons_zero, List.set_cons_succ, i64_w, i32_w]
       rfl
      refine pure_ (i := 8) (N := some 27) (v := ?_) (a' := ?_) #[true, true, true, true, true, true, true, true, true, false, true, false, true, false, false, false] rfl rfl (any_of HT_.out (by kernel_rfl)) (fun _ _ _ h => h) (Or.inl ⟨by rfl, ?_⟩) ?_ ?_
      rotate_left
      ·intro w'
       go_simp; with_reducible rfl
      rotate_left
      ·simp only [Act.put, List.setIfInBounds_toArray, List.set_cons_zero, List.set_cons_succ, i64_w, i32_w]
       rfl
      refine pure_ (i := 9) (N := some 28) (v := ?_) (a' := ?_) #[true, true, true, true, true, true, true, true, true, true, true, false, true, false, false, false] rfl rfl (any_of HT_.out (by kernel_rfl)) (fun _ _ _ h => h) (Or.inl ⟨by rfl, ?_⟩) ?_ ?_
      rotate_left
      ·intro w'
       go_simp; with_reducible rfl
      rotate_left
      ·simp only [Act.put, List.setIfInBounds_toArray, List.set_cons_zero, List.set_cons_succ, i64_w, i32_w]
       rfl
      refine take_ (i := 11) (N := some 30) (v := ?_) (a' := ?_) #[true, true, true, true, true, true, true, true, true, true, true, true, true, false, false, false] rfl rfl (take_ofW HT_.out HW_.out (by kernel_rfl)) (fun _ _ _ h => h) (Or.inl ⟨by rfl, ?_⟩) hHeld ?_ ?_
      rotate_left
      ·rintro w' ⟨s0, s1⟩
       go_simp; with_reducible rfl
      rotate_left
      ·simp only [Act.put, List.setIfInBounds_toArray, List.set_cons_zero, List.set_cons_succ, i64_w, i32_w]
       rfl
      refine pure_ (i := 13) (N := some 32) (v := ?_) (a' := ?_) #[true, true, true, true, true, true, true, true, true, true, true, true, true, true, false, false] rfl rfl (any_of HT_.out (by kernel_rfl)) (fun _ _ _ h => h) (Or.inl ⟨by rfl, ?_⟩) ?_ ?_
      rotate_left
      ·intro w'
       go_simp; with_reducible rfl
      rotate_left
      ·simp only [Act.put, List.setIfInBounds_toArray, List.set_cons_zero, List.set_cons_succ, i64_w, i32_w]
       rfl
      refine pure_ (i := 14) (N := some 33) (v := ?_) (a' := ?_) #[true, true, true, true, true, true, true, true, true, true, true, true, true, true, true, false] rfl rfl (any_of HT_.out (by kernel_rfl)) (fun _ _ _ h => h) (Or.inl ⟨by rfl, ?_⟩) ?_ ?_
      rotate_left
      ·intro w'
       go_simp; with_reducible rfl
      rotate_left
      ·simp only [Act.put, List.setIfInBounds_toArray, List.set_cons_zero, List.set_cons_succ, i64_w, i32_w]
       rfl
      refine one_ (i := 15) (N := none) #[true, true, true, true, true, true, true, true, true, true, true, true, true, true, true, true] rfl rfl (one_of HT_.out (by kernel_rfl)) (by decide) (fun K hK => ?_)
      have hs33 : w32.cell? ⟨gb261, 0, none⟩ = some (.int .u64 0) := (blk_cell BK261.out 0).trans rfl
      have hfs33 := blk_frozen BK261.out 0
      have hns33_0 := NB260_261.out
      have hms33_0 := NB261_260.out
      have hs34 : w32.cell? ⟨gb261, 1, none⟩ = some (.int .u64 0) := (blk_cell BK261.out 1).trans rfl
      have hfs34 := blk_frozen BK261.out 1
      have hns34_0 := NB260_261.out
      have hms34_0 := NB261_260.out
      refine skip_ (w1 := ?_) (by rfl) rfl ?_ ?_
      rotate_left
      ·go_simp
       rfl
      refine hK.out _ _ ⟨((cell_far (p := ⟨gb261, _, none⟩) NB260_261.out _).trans (((cell_far (p := ⟨gb261, _, none⟩) NB260_261.out _).trans (hHeld.1)))), ((cell_far (p := ⟨gb261, _, none⟩) NB260_261.out _).trans (((cell_far (p := ⟨gb261, _, none⟩) NB260_261.out _).trans (hHeld.2))))⟩ (fun hHeld => ?_)
      clear hK K
      refine done_ (done_of HT_.out (by kernel_rfl)) ?_
      try go_wp2
      refine bodyPost_ret (results_cell_row rfl _ _ gb261 28 #[.int .u64 (IntKind.u64.wrap ((ji24) + (ji27))), .int .u64 ji29] (0, 0) _ rfl (by (with_reducible repeat (first | refine blk_drewN ?_ _ | refine blk_drew ?_ | refine blk_alloc ?_ _)); refine blk_put (cs := #[.int .u64 (IntKind.u64.wrap ((ji24) + (ji27))), .int .u64 0]) ?_ 1 _ rfl; (with_reducible repeat (first | refine blk_drewN ?_ _ | refine blk_drew ?_ | refine blk_alloc ?_ _)); refine blk_put (cs := #[.int .u64 0, .int .u64 0]) ?_ 0 _ rfl; (with_reducible repeat (first | refine blk_drewN ?_ _ | refine blk_drew ?_ | refine blk_alloc ?_ _)); exact BK261.out) Try.underlying28 rfl (by kernel_rfl)) rfl ?_
      exact ⟨by first | rfl | (simp [errW_none, errW_some] <;> rfl) | (simp only [← hji24, ← hji25, ← hji27, ← hji29]; first | rfl | (simp [errW_none, errW_some] <;> rfl)) | (simp [*, errW_none, errW_some] <;> rfl), bA⟩
     ·rw [if_neg c26] at H
      exact absurd H (by simp)
    ·rw [if_neg c23] at H
     exact absurd H (by simp)

/-! ### backfillref01_Div: function 15 -/
def backfillref01_Div.l0 : Nat → Int → Int → Int → Int → Int → Int → Int → Option (Int × Int × Int × Bool)
 | 0, _, _, _, _, _, _, _ => none
 | k + 1, x1, x8, x9, x263000, x263001, x265000, x265001 => if x9 < 128 then ((backfillref01_Shl.f x263000 x263001 1).bind fun bt265 => ((backfillref01_Shl.f x265000 x265001 1).bind fun bt267 => (if (x8 / 9223372036854775808) = 1 then (backfillref01_Div.l0 k x1 (IntKind.u64.wrap ((IntKind.u64.wrap ((IntKind.u64.wrap (x8 * 2)) + (x263000 / 9223372036854775808))) - x1)) (wrap64 (x9 + 1)) bt265.1 bt265.2 bt267.1 (IntKind.u64.wrap (bt267.2 + 1))) else (if (IntKind.u64.wrap ((IntKind.u64.wrap (x8 * 2)) + (x263000 / 9223372036854775808))) ≥ x1 then (backfillref01_Div.l0 k x1 (IntKind.u64.wrap ((IntKind.u64.wrap ((IntKind.u64.wrap (x8 * 2)) + (x263000 / 9223372036854775808))) - x1)) (wrap64 (x9 + 1)) bt265.1 bt265.2 bt267.1 (IntKind.u64.wrap (bt267.2 + 1))) else (backfillref01_Div.l0 k x1 (IntKind.u64.wrap ((IntKind.u64.wrap (x8 * 2)) + (x263000 / 9223372036854775808))) (wrap64 (x9 + 1)) bt265.1 bt265.2 bt267.1 bt267.2))))) else (some (x265000, x265001, x8, true))
def backfillref01_Div.f (k : Nat) (a0_0 : Int) (a0_1 : Int) (a1 : Int) : Option (Int × Int × Int × Bool) := if a1 = 0 then (some (0, 0, 0, false)) else (backfillref01_Div.l0 k a1 0 0 a0_0 a0_1 0 0)
theorem backfillref01_Div.mono_l : ∀ k, (∀ y0 y1 y2 y3 y4 y5 y6, LeO (backfillref01_Div.l0 k y0 y1 y2 y3 y4 y5 y6) (backfillref01_Div.l0 (k + 1) y0 y1 y2 y3 y4 y5 y6))
 | 0 => fun _ _ _ _ _ _ _ r h => by simp [backfillref01_Div.l0] at h
 | k + 1 => by
  have ih0 := backfillref01_Div.mono_l k
  ·intro y0 y1 y2 y3 y4 y5 y6
   unfold backfillref01_Div.l0
   repeat' first
   | (with_reducible exact ih0 _ _ _ _ _ _ _)
   | (with_reducible exact LeO.refl _)
   | (with_reducible exact LeO.none _)
   | (with_reducible refine LeO.ite ?_ ?_)
   | (with_reducible refine LeO.bind ?_ (fun _ => ?_))
   | exact ih0 _ _ _ _ _ _ _
   | exact LeO.none _
   | refine LeO.ite ?_ ?_
   | refine LeO.bind ?_ (fun _ => ?_)
theorem backfillref01_Div.mono : ∀ a0 a1 a2 k, LeO (backfillref01_Div.f k a0 a1 a2) (backfillref01_Div.f (k + 1) a0 a1 a2) := by
 intro a0 a1 a2 k
 have ih0 := backfillref01_Div.mono_l k
 unfold backfillref01_Div.f
 repeat' first
   | (with_reducible exact ih0 _ _ _ _ _ _ _)
   | (with_reducible exact LeO.refl _)
   | (with_reducible exact LeO.none _)
   | (with_reducible refine LeO.ite ?_ ?_)
   | (with_reducible refine LeO.bind ?_ (fun _ => ?_))
   | exact ih0 _ _ _ _ _ _ _
   | exact LeO.none _
   | refine LeO.ite ?_ ?_
   | refine LeO.bind ?_ (fun _ => ?_)
set_option maxHeartbeats 8000000 in
set_option maxRecDepth 100000 in
theorem backfillref01_Div.calls (k : Nat) (a0_0 : Int) (a0_1 : Int) (a1 : Int) (r1 : Int) (r2 : Int) (r3 : Int) (r4 : Bool) (w : World) (h : backfillref01_Div.f k a0_0 a0_1 a1 = some (r1, r2, r3, r4)) :
  Calls Try.prog 15 #[.agg #[.int .u64 a0_0, .int .u64 a0_1], .int .u64 a1] w fun e w' => e = .returned (.tuple #[.agg #[.int .u64 r1, .int .u64 r2], .int .u64 r3, .bool r4]) ∧ Below w.heap.size w w' := by
 have hu28 := Try.underlying28
 have HB := Aside0.mk (Below.refl w.heap.size w)
 have H : (if a1 = 0 then (some (0, 0, 0, false)) else (backfillref01_Div.l0 k a1 0 0 a0_0 a0_1 0 0)) = some (r1, r2, r3, r4) := h
 clear h
 by_cases c3 : a1 = 0
 ·rw [if_pos c3] at H
  have c3b0 : (a1 == 0) = true := beq_iff_eq.mpr c3
  have c3b1 : (a1 != 0) = false := bne_eq_false_iff_eq.mpr c3
  clear c3
  simp only [Option.some.injEq, Prod.mk.injEq] at H
  obtain ⟨rfl, rfl, rfl, rfl⟩ := H
  go_enter Try.func15, Try.ntmps15
  go_wp2_with (first | ((with_reducible refine gate_dst (N := 2) rfl ?_); refine bxA 2 #[.int .u64 a0_0, .int .u64 a0_1] 28 ?_; intro gb262 hg w4 hbox hb; have n0_ := Aside0.mk (below_step bA hb); have n1_ := Aside0.mk (hbox); have n2_ := Aside0.mk ((by rw [hg]; exact (below_size bA) : w.heap.size ≤ gb262)); have n3_ := Aside0.mk ((by rw [hg]; exact (below_size bA) : w.heap.size ≤ gb262)); clear HB; have HB := n0_; have BK262 := n1_; have GW262 := n2_; have GE262 := n3_; clear n0_ n1_ n2_ n3_ hb hbox hg) | ((with_reducible refine gate_dst (N := 4) rfl ?_); refine bxA 4 #[.int .u64 0, .int .u64 0] 28 ?_; intro gb263 hg w5 hbox hb; have n0_ := Aside0.mk (blk_below (g := gb262) (o := .cells #[.int .u64 a0_0, .int .u64 a0_1] 28 (0, 0)) kA hb); have n1_ := Aside0.mk (below_step bA hb); have n2_ := Aside0.mk (hbox); have n3_ := Aside0.mk ((by rw [hg]; exact (below_size bA) : w.heap.size ≤ gb263)); have n4_ := Aside0.mk ((by rw [hg]; exact (below_size bA) : w.heap.size ≤ gb263)); have n5_ := Aside0.mk ((by rw [hg]; exact Nat.ne_of_lt (blk_lt (g := gb262) (o := .cells #[.int .u64 a0_0, .int .u64 a0_1] 28 (0, 0)) kA) : gb262 ≠ gb263)); have n6_ := Aside0.mk ((by rw [hg]; exact Nat.ne_of_gt (blk_lt (g := gb262) (o := .cells #[.int .u64 a0_0, .int .u64 a0_1] 28 (0, 0)) kA) : gb263 ≠ gb262)); clear BK262 HB; have BK262 := n0_; have HB := n1_; have BK263 := n2_; have GW263 := n3_; have GE263 := n4_; have NB262_263 := n5_; have NB263_262 := n6_; clear n0_ n1_ n2_ n3_ n4_ n5_ n6_ hb hbox hg; have hnb6 := NB263_262.out; have hnc6 := NB262_263.out; have hcz7_0 : w5.cell? ⟨gb263, 0, none⟩ = some (.int .u64 0) := (blk_cell BK263.out 0).trans rfl; have hcz7_1 : w5.cell? ⟨gb263, 1, none⟩ = some (.int .u64 0) := (blk_cell BK263.out 1).trans rfl; have hfz7_0 := blk_frozen BK263.out 0; have hfz7_1 := blk_frozen BK263.out 1))
  refine bodyPost_ret (results_ctt rfl _ _ gb263 28 #[.int .u64 0, .int .u64 0] (0, 0) _ rfl (by (with_reducible repeat (first | refine blk_drewN ?_ _ | refine blk_drew ?_ | refine blk_alloc ?_ _)); refine blk_put (cs := #[.int .u64 0, .int .u64 0]) ?_ 1 _ rfl; (with_reducible repeat (first | refine blk_drewN ?_ _ | refine blk_drew ?_ | refine blk_alloc ?_ _)); refine blk_put (cs := #[.int .u64 0, .int .u64 0]) ?_ 0 _ rfl; (with_reducible repeat (first | refine blk_drewN ?_ _ | refine blk_drew ?_ | refine blk_alloc ?_ _)); exact BK263.out) Try.underlying28 rfl (by kernel_rfl)) rfl ?_
  exact ⟨by first | rfl | (simp [errW_none, errW_some] <;> rfl) | (simp [*, errW_none, errW_some] <;> rfl), bA⟩
 ·rw [if_neg c3] at H
  have c3b0 : (a1 == 0) = false := beq_eq_false_iff_ne.mpr c3
  have c3b1 : (a1 != 0) = true := bne_iff_ne.mpr c3
  have H' := Aside0.mk H
  clear H
  go_enter Try.func15, Try.ntmps15
  go_wp2_with (first | ((with_reducible refine gate_dst (N := 2) rfl ?_); refine bxA 2 #[.int .u64 a0_0, .int .u64 a0_1] 28 ?_; intro gb262 hg w8 hbox hb; have n0_ := Aside0.mk (below_step bA hb); have n1_ := Aside0.mk (hbox); have n2_ := Aside0.mk ((by rw [hg]; exact (below_size bA) : w.heap.size ≤ gb262)); have n3_ := Aside0.mk ((by rw [hg]; exact (below_size bA) : w.heap.size ≤ gb262)); clear HB; have HB := n0_; have BK262 := n1_; have GW262 := n2_; have GE262 := n3_; clear n0_ n1_ n2_ n3_ hb hbox hg) | ((with_reducible refine gate_dst (N := 4) rfl ?_); refine bxA 4 #[.int .u64 0, .int .u64 0] 28 ?_; intro gb263 hg w9 hbox hb; have n0_ := Aside0.mk (blk_below (g := gb262) (o := .cells #[.int .u64 a0_0, .int .u64 a0_1] 28 (0, 0)) kA hb); have n1_ := Aside0.mk (below_step bA hb); have n2_ := Aside0.mk (hbox); have n3_ := Aside0.mk ((by rw [hg]; exact (below_size bA) : w.heap.size ≤ gb263)); have n4_ := Aside0.mk ((by rw [hg]; exact (below_size bA) : w.heap.size ≤ gb263)); have n5_ := Aside0.mk ((by rw [hg]; exact Nat.ne_of_lt (blk_lt (g := gb262) (o := .cells #[.int .u64 a0_0, .int .u64 a0_1] 28 (0, 0)) kA) : gb262 ≠ gb263)); have n6_ := Aside0.mk ((by rw [hg]; exact Nat.ne_of_gt (blk_lt (g := gb262) (o := .cells #[.int .u64 a0_0, .int .u64 a0_1] 28 (0, 0)) kA) : gb263 ≠ gb262)); clear BK262 HB; have BK262 := n0_; have HB := n1_; have BK263 := n2_; have GW263 := n3_; have GE263 := n4_; have NB262_263 := n5_; have NB263_262 := n6_; clear n0_ n1_ n2_ n3_ n4_ n5_ n6_ hb hbox hg) | ((with_reducible refine gate_dst (N := 7) rfl ?_); refine bxA 7 #[.int .u64 0, .int .u64 0] 28 ?_; intro gb264 hg w10 hbox hb; have n0_ := Aside0.mk (blk_below (g := gb262) (o := .cells #[.int .u64 a0_0, .int .u64 a0_1] 28 (0, 0)) kA hb); have n1_ := Aside0.mk (blk_below (g := gb263) (o := .cells #[.int .u64 0, .int .u64 0] 28 (0, 0)) kA hb); have n2_ := Aside0.mk (below_step bA hb); have n3_ := Aside0.mk (hbox); have n4_ := Aside0.mk ((by rw [hg]; exact (below_size bA) : w.heap.size ≤ gb264)); have n5_ := Aside0.mk ((by rw [hg]; exact (below_size bA) : w.heap.size ≤ gb264)); have n6_ := Aside0.mk ((by rw [hg]; exact Nat.ne_of_lt (blk_lt (g := gb262) (o := .cells #[.int .u64 a0_0, .int .u64 a0_1] 28 (0, 0)) kA) : gb262 ≠ gb264)); have n7_ := Aside0.mk ((by rw [hg]; exact Nat.ne_of_gt (blk_lt (g := gb262) (o := .cells #[.int .u64 a0_0, .int .u64 a0_1] 28 (0, 0)) kA) : gb264 ≠ gb262)); have n8_ := Aside0.mk ((by rw [hg]; exact Nat.ne_of_lt (blk_lt (g := gb263) (o := .cells #[.int .u64 0, .int .u64 0] 28 (0, 0)) kA) : gb263 ≠ gb264)); have n9_ := Aside0.mk ((by rw [hg]; exact Nat.ne_of_gt (blk_lt (g := gb263) (o := .cells #[.int .u64 0, .int .u64 0] 28 (0, 0)) kA) : gb264 ≠ gb263)); clear BK262 BK263 HB; have BK262 := n0_; have BK263 := n1_; have HB := n2_; have BK264 := n3_; have GW264 := n4_; have GE264 := n5_; have NB262_264 := n6_; have NB264_262 := n7_; have NB263_264 := n8_; have NB264_263 := n9_; clear n0_ n1_ n2_ n3_ n4_ n5_ n6_ n7_ n8_ n9_ hb hbox hg; have hnb11 := NB264_262.out; have hnc11 := NB262_264.out; have hnb12 := NB264_263.out; have hnc12 := NB263_264.out; have hcz13_0 : w10.cell? ⟨gb264, 0, none⟩ = some (.int .u64 0) := (blk_cell BK264.out 0).trans rfl; have hcz13_1 : w10.cell? ⟨gb264, 1, none⟩ = some (.int .u64 0) := (blk_cell BK264.out 1).trans rfl; have hfz13_0 := blk_frozen BK264.out 0; have hfz13_1 := blk_frozen BK264.out 1))
  go_loopg [8, 9] k (fun kq v8 v9 w' => ∃ (x8_1 : Int) (x9_1 : Int) (x263000_1 : Int) (x263001_1 : Int) (x265000_1 : Int) (x265001_1 : Int), v8 = .int .u64 x8_1 ∧ v9 = .int .i64 x9_1 ∧ Aside0 (backfillref01_Div.l0 kq a1 x8_1 x9_1 x263000_1 x263001_1 x265000_1 x265001_1 = some (r1, r2, r3, r4)) ∧ Aside0 (kq ≤ k) ∧ Aside0 (w'.heap[gb262]? = some (.cells #[.int .u64 x263000_1, .int .u64 x263001_1] 28 (0, 0))) ∧ Aside0 (w'.heap[gb263]? = some (.cells #[.int .u64 0, .int .u64 0] 28 (0, 0))) ∧ Aside0 (w'.heap[gb264]? = some (.cells #[.int .u64 x265000_1, .int .u64 x265001_1] 28 (0, 0))) ∧ Aside0 (Below w.heap.size w w'))
  case atStart => exact ⟨(0), (0), (a0_0), (a0_1), (0), (0), (by first | rfl | (simp; done) | (simp [*]; done)), (by first | rfl | (simp; done) | (simp [*]; done)), H', ⟨Nat.le_refl _⟩, ⟨by (with_reducible repeat (first | refine blk_drewN ?_ _ | refine blk_drew ?_ | refine blk_alloc ?_ _)); refine blk_far ?_ NB262_264.out _; (with_reducible repeat (first | refine blk_drewN ?_ _ | refine blk_drew ?_ | refine blk_alloc ?_ _)); refine blk_far ?_ NB262_264.out _; (with_reducible repeat (first | refine blk_drewN ?_ _ | refine blk_drew ?_ | refine blk_alloc ?_ _)); exact BK262.out⟩, ⟨by (with_reducible repeat (first | refine blk_drewN ?_ _ | refine blk_drew ?_ | refine blk_alloc ?_ _)); refine blk_far ?_ NB263_264.out _; (with_reducible repeat (first | refine blk_drewN ?_ _ | refine blk_drew ?_ | refine blk_alloc ?_ _)); refine blk_far ?_ NB263_264.out _; (with_reducible repeat (first | refine blk_drewN ?_ _ | refine blk_drew ?_ | refine blk_alloc ?_ _)); exact BK263.out⟩, ⟨by (with_reducible repeat (first | refine blk_drewN ?_ _ | refine blk_drew ?_ | refine blk_alloc ?_ _)); refine blk_put (cs := #[.int .u64 0, .int .u64 0]) ?_ 1 _ rfl; (with_reducible repeat (first | refine blk_drewN ?_ _ | refine blk_drew ?_ | refine blk_alloc ?_ _)); refine blk_put (cs := #[.int .u64 0, .int .u64 0]) ?_ 0 _ rfl; (with_reducible repeat (first | refine blk_drewN ?_ _ | refine blk_drew ?_ | refine blk_alloc ?_ _)); exact BK264.out⟩, ⟨bA⟩⟩
  case round =>
   clear H'
   try clear c1
   try clear p2
   try clear c3
   try clear c3b0
   try clear c3b1
   try clear c6
   try clear c11
   try clear c12
   try clear hcz13_0
   try clear hcz13_1
   try clear hcz7_0
   try clear hcz7_1
   try clear hfz13_0
   try clear hfz13_1
   try clear hfz7_0
   try clear hfz7_1
   obtain ⟨x8_1, x9_1, x263000_1, x263001_1, x265000_1, x265001_1, rfl, rfl, HA, HK1, BK262, BK263, BK264, HB⟩ := hrel
   cases gk with
   | zero => exact absurd HA.out (by simp [backfillref01_Div.l0])
   | succ k1 =>
    have H := HA.out
    clear HA
    simp only [backfillref01_Div.l0] at H
    by_cases c14 : x9_1 < 128
    ·rw [if_pos c14] at H
     have c14b0 : decide (x9_1 < 128) = true := decide_eq_true c14
     clear c14; replace H := Option.bind_eq_some_iff.mp H; obtain ⟨⟨t265, t266⟩, A150, H⟩ := H; replace H : ((backfillref01_Shl.f x265000_1 x265001_1 1).bind fun bt267 => (if (x8_1 / 9223372036854775808) = 1 then (backfillref01_Div.l0 k1 a1 (IntKind.u64.wrap ((IntKind.u64.wrap ((IntKind.u64.wrap (x8_1 * 2)) + (x263000_1 / 9223372036854775808))) - a1)) (wrap64 (x9_1 + 1)) t265 t266 bt267.1 (IntKind.u64.wrap (bt267.2 + 1))) else (if (IntKind.u64.wrap ((IntKind.u64.wrap (x8_1 * 2)) + (x263000_1 / 9223372036854775808))) ≥ a1 then (backfillref01_Div.l0 k1 a1 (IntKind.u64.wrap ((IntKind.u64.wrap ((IntKind.u64.wrap (x8_1 * 2)) + (x263000_1 / 9223372036854775808))) - a1)) (wrap64 (x9_1 + 1)) t265 t266 bt267.1 (IntKind.u64.wrap (bt267.2 + 1))) else (backfillref01_Div.l0 k1 a1 (IntKind.u64.wrap ((IntKind.u64.wrap (x8_1 * 2)) + (x263000_1 / 9223372036854775808))) (wrap64 (x9_1 + 1)) t265 t266 bt267.1 bt267.2)))) = some (r1, r2, r3, r4) := H; have A15 := Aside0.mk A150; clear A150; replace H := Option.bind_eq_some_iff.mp H; obtain ⟨⟨t267, t268⟩, A160, H⟩ := H; replace H : (if (x8_1 / 9223372036854775808) = 1 then (backfillref01_Div.l0 k1 a1 (IntKind.u64.wrap ((IntKind.u64.wrap ((IntKind.u64.wrap (x8_1 * 2)) + (x263000_1 / 9223372036854775808))) - a1)) (wrap64 (x9_1 + 1)) t265 t266 t267 (IntKind.u64.wrap (t268 + 1))) else (if (IntKind.u64.wrap ((IntKind.u64.wrap (x8_1 * 2)) + (x263000_1 / 9223372036854775808))) ≥ a1 then (backfillref01_Div.l0 k1 a1 (IntKind.u64.wrap ((IntKind.u64.wrap ((IntKind.u64.wrap (x8_1 * 2)) + (x263000_1 / 9223372036854775808))) - a1)) (wrap64 (x9_1 + 1)) t265 t266 t267 (IntKind.u64.wrap (t268 + 1))) else (backfillref01_Div.l0 k1 a1 (IntKind.u64.wrap ((IntKind.u64.wrap (x8_1 * 2)) + (x263000_1 / 9223372036854775808))) (wrap64 (x9_1 + 1)) t265 t266 t267 t268))) = some (r1, r2, r3, r4) := H; have A16 := Aside0.mk A160; clear A160
     by_cases c17 : (x8_1 / 9223372036854775808) = 1
     ·rw [if_pos c17] at H
      have c17b0 : ((x8_1 / 9223372036854775808) == 1) = true := beq_iff_eq.mpr c17
      have c17b1 : ((x8_1 / 9223372036854775808) != 1) = false := bne_eq_false_iff_eq.mpr c17
      clear c17
      have H' := Aside0.mk H
      clear H
      have hnb18 := NB262_263.out
      have hnc18 := NB263_262.out
      have hnb19 := NB262_264.out
      have hnc19 := NB264_262.out
      have hcz20_0 : wr.cell? ⟨gb262, 0, none⟩ = some (.int .u64 x263000_1) := (blk_cell BK262.out 0).trans rfl
      have hcz20_1 : wr.cell? ⟨gb262, 1, none⟩ = some (.int .u64 x263001_1) := (blk_cell BK262.out 1).trans rfl
      have hfz20_0 := blk_frozen BK262.out 0
      have hfz20_1 := blk_frozen BK262.out 1
      go_wp2_with (first | ((with_reducible refine gate_callee (f := 19) rfl ?_); refine goesL_ (some 29) rfl rfl Try.func19 (by kernel_rfl) rfl #[.agg #[.int .u64 x263000_1, .int .u64 x263001_1], .int .i64 1] rfl aA ?_; (with_reducible refine (backfillref01_Shl.calls x263000_1 x263001_1 1 t265 t266 _ A15.out).mono ?_); rintro e w21 ⟨rfl, hb⟩; refine ⟨_, rfl, ?_⟩; have n0_ := Aside0.mk (blk_below (g := gb262) (o := .cells #[.int .u64 x263000_1, .int .u64 x263001_1] 28 (0, 0)) kA hb); have n1_ := Aside0.mk (blk_below (g := gb263) (o := .cells #[.int .u64 0, .int .u64 0] 28 (0, 0)) kA hb); have n2_ := Aside0.mk (blk_below (g := gb264) (o := .cells #[.int .u64 x265000_1, .int .u64 x265001_1] 28 (0, 0)) kA hb); have n3_ := Aside0.mk (below_step bA hb); clear BK262 BK263 BK264 HB; have BK262 := n0_; have BK263 := n1_; have BK264 := n2_; have HB := n3_; clear n0_ n1_ n2_ n3_; (try clear hb); have hcz22_0 : w21.cell? ⟨gb262, 0, none⟩ = some (.int .u64 x263000_1) := (blk_cell BK262.out 0).trans rfl; have hcz22_1 : w21.cell? ⟨gb262, 1, none⟩ = some (.int .u64 x263001_1) := (blk_cell BK262.out 1).trans rfl; have hfz22_0 := blk_frozen BK262.out 0; have hfz22_1 := blk_frozen BK262.out 1; have hnb23 := NB264_263.out; have hnc23 := NB263_264.out; have hcz24_0 : w21.cell? ⟨gb264, 0, none⟩ = some (.int .u64 x265000_1) := (blk_cell BK264.out 0).trans rfl; have hcz24_1 : w21.cell? ⟨gb264, 1, none⟩ = some (.int .u64 x265001_1) := (blk_cell BK264.out 1).trans rfl; have hfz24_0 := blk_frozen BK264.out 0; have hfz24_1 := blk_frozen BK264.out 1) | ((with_reducible refine gate_callee (f := 19) rfl ?_); refine goesL_ (some 31) rfl rfl Try.func19 (by kernel_rfl) rfl #[.agg #[.int .u64 x265000_1, .int .u64 x265001_1], .int .i64 1] rfl aA ?_; (with_reducible refine (backfillref01_Shl.calls x265000_1 x265001_1 1 t267 t268 _ A16.out).mono ?_); rintro e w25 ⟨rfl, hb⟩; refine ⟨_, rfl, ?_⟩; have n0_ := Aside0.mk (blk_below (g := gb262) (o := .cells #[.int .u64 t265, .int .u64 t266] 28 (0, 0)) (by (with_reducible repeat (first | refine blk_drewN ?_ _ | refine blk_drew ?_ | refine blk_alloc ?_ _)); refine blk_put (cs := #[.int .u64 t265, .int .u64 x263001_1]) ?_ 1 _ rfl; (with_reducible repeat (first | refine blk_drewN ?_ _ | refine blk_drew ?_ | refine blk_alloc ?_ _)); refine blk_put (cs := #[.int .u64 x263000_1, .int .u64 x263001_1]) ?_ 0 _ rfl; (with_reducible repeat (first | refine blk_drewN ?_ _ | refine blk_drew ?_ | refine blk_alloc ?_ _)); exact BK262.out) hb); have n1_ := Aside0.mk (blk_below (g := gb263) (o := .cells #[.int .u64 0, .int .u64 0] 28 (0, 0)) (by (with_reducible repeat (first | refine blk_drewN ?_ _ | refine blk_drew ?_ | refine blk_alloc ?_ _)); refine blk_far ?_ NB263_262.out _; (with_reducible repeat (first | refine blk_drewN ?_ _ | refine blk_drew ?_ | refine blk_alloc ?_ _)); refine blk_far ?_ NB263_262.out _; (with_reducible repeat (first | refine blk_drewN ?_ _ | refine blk_drew ?_ | refine blk_alloc ?_ _)); exact BK263.out) hb); have n2_ := Aside0.mk (blk_below (g := gb264) (o := .cells #[.int .u64 x265000_1, .int .u64 x265001_1] 28 (0, 0)) (by (with_reducible repeat (first | refine blk_drewN ?_ _ | refine blk_drew ?_ | refine blk_alloc ?_ _)); refine blk_far ?_ NB264_262.out _; (with_reducible repeat (first | refine blk_drewN ?_ _ | refine blk_drew ?_ | refine blk_alloc ?_ _)); refine blk_far ?_ NB264_262.out _; (with_reducible repeat (first | refine blk_drewN ?_ _ | refine blk_drew ?_ | refine blk_alloc ?_ _)); exact BK264.out) hb); have n3_ := Aside0.mk (below_step bA hb); clear BK262 BK263 BK264 HB; have BK262 := n0_; have BK263 := n1_; have BK264 := n2_; have HB := n3_; clear n0_ n1_ n2_ n3_; (try clear hb); have hcz26_0 : w25.cell? ⟨gb264, 0, none⟩ = some (.int .u64 x265000_1) := (blk_cell BK264.out 0).trans rfl; have hcz26_1 : w25.cell? ⟨gb264, 1, none⟩ = some (.int .u64 x265001_1) := (blk_cell BK264.out 1).trans rfl; have hfz26_0 := blk_frozen BK264.out 0; have hfz26_1 := blk_frozen BK264.out 1))
      go_roundg k1
      case measure => have := HK1.out; omega
      case rel => exact ⟨(IntKind.u64.wrap ((IntKind.u64.wrap ((IntKind.u64.wrap (x8_1 * 2)) + (x263000_1 / 9223372036854775808))) - a1)), (wrap64 (x9_1 + 1)), (t265), (t266), (t267), (IntKind.u64.wrap (t268 + 1)), (by first | rfl | (simp; done) | (simp [*]; done)), (by first | rfl | (simp; done) | (simp [*]; done)), H', ⟨by have := HK1.out; omega⟩, ⟨by (with_reducible repeat (first | refine blk_drewN ?_ _ | refine blk_drew ?_ | refine blk_alloc ?_ _)); refine blk_far ?_ NB262_264.out _; (with_reducible repeat (first | refine blk_drewN ?_ _ | refine blk_drew ?_ | refine blk_alloc ?_ _)); refine blk_far ?_ NB262_264.out _; (with_reducible repeat (first | refine blk_drewN ?_ _ | refine blk_drew ?_ | refine blk_alloc ?_ _)); refine blk_far ?_ NB262_264.out _; (with_reducible repeat (first | refine blk_drewN ?_ _ | refine blk_drew ?_ | refine blk_alloc ?_ _)); exact BK262.out⟩, ⟨by (with_reducible repeat (first | refine blk_drewN ?_ _ | refine blk_drew ?_ | refine blk_alloc ?_ _)); refine blk_far ?_ NB263_264.out _; (with_reducible repeat (first | refine blk_drewN ?_ _ | refine blk_drew ?_ | refine blk_alloc ?_ _)); refine blk_far ?_ NB263_264.out _; (with_reducible repeat (first | refine blk_drewN ?_ _ | refine blk_drew ?_ | refine blk_alloc ?_ _)); refine blk_far ?_ NB263_264.out _; (with_reducible repeat (first | refine blk_drewN ?_ _ | refine blk_drew ?_ | refine blk_alloc ?_ _)); exact BK263.out⟩, ⟨by (with_reducible repeat (first | refine blk_drewN ?_ _ | refine blk_drew ?_ | refine blk_alloc ?_ _)); refine blk_put (cs := #[.int .u64 t267, .int .u64 t268]) ?_ 1 _ rfl; (with_reducible repeat (first | refine blk_drewN ?_ _ | refine blk_drew ?_ | refine blk_alloc ?_ _)); refine blk_put (cs := #[.int .u64 t267, .int .u64 x265001_1]) ?_ 1 _ rfl; (with_reducible repeat (first | refine blk_drewN ?_ _ | refine blk_drew ?_ | refine blk_alloc ?_ _)); refine blk_put (cs := #[.int .u64 x265000_1, .int .u64 x265001_1]) ?_ 0 _ rfl; (with_reducible repeat (first | refine blk_drewN ?_ _ | refine blk_drew ?_ | refine blk_alloc ?_ _)); exact BK264.out⟩, ⟨bA⟩⟩
     ·rw [if_neg c17] at H
      have c17b0 : ((x8_1 / 9223372036854775808) == 1) = false := beq_eq_false_iff_ne.mpr c17
      have c17b1 : ((x8_1 / 9223372036854775808) != 1) = true := bne_iff_ne.mpr c17
      by_cases c27 : (IntKind.u64.wrap ((IntKind.u64.wrap (x8_1 * 2)) + (x263000_1 / 9223372036854775808))) ≥ a1
      ·rw [if_pos c27] at H
       have c27b0 : decide (a1 ≤ (IntKind.u64.wrap ((IntKind.u64.wrap (x8_1 * 2)) + (x263000_1 / 9223372036854775808)))) = true := decide_eq_true c27
       clear c27
       have H' := Aside0.mk H
       clear H
       have hnb28 := NB262_263.out
       have hnc28 := NB263_262.out
       have hnb29 := NB262_264.out
       have hnc29 := NB264_262.out
       have hcz30_0 : wr.cell? ⟨gb262, 0, none⟩ = some (.int .u64 x263000_1) := (blk_cell BK262.out 0).trans rfl
       have hcz30_1 : wr.cell? ⟨gb262, 1, none⟩ = some (.int .u64 x263001_1) := (blk_cell BK262.out 1).trans rfl
       have hfz30_0 := blk_frozen BK262.out 0
       have hfz30_1 := blk_frozen BK262.out 1
       go_wp2_with (first | ((with_reducible refine gate_callee (f := 19) rfl ?_); refine goesL_ (some 29) rfl rfl Try.func19 (by kernel_rfl) rfl #[.agg #[.int .u64 x263000_1, .int .u64 x263001_1], .int .i64 1] rfl aA ?_; (with_reducible refine (backfillref01_Shl.calls x263000_1 x263001_1 1 t265 t266 _ A15.out).mono ?_); rintro e w31 ⟨rfl, hb⟩; refine ⟨_, rfl, ?_⟩; have n0_ := Aside0.mk (blk_below (g := gb262) (o := .cells #[.int .u64 x263000_1, .int .u64 x263001_1] 28 (0, 0)) kA hb); have n1_ := Aside0.mk (blk_below (g := gb263) (o := .cells #[.int .u64 0, .int .u64 0] 28 (0, 0)) kA hb); have n2_ := Aside0.mk (blk_below (g := gb264) (o := .cells #[.int .u64 x265000_1, .int .u64 x265001_1] 28 (0, 0)) kA hb); have n3_ := Aside0.mk (below_step bA hb); clear BK262 BK263 BK264 HB; have BK262 := n0_; have BK263 := n1_; have BK264 := n2_; have HB := n3_; clear n0_ n1_ n2_ n3_; (try clear hb); have hcz32_0 : w31.cell? ⟨gb262, 0, none⟩ = some (.int .u64 x263000_1) := (blk_cell BK262.out 0).trans rfl; have hcz32_1 : w31.cell? ⟨gb262, 1, none⟩ = some (.int .u64 x263001_1) := (blk_cell BK262.out 1).trans rfl; have hfz32_0 := blk_frozen BK262.out 0; have hfz32_1 := blk_frozen BK262.out 1; have hnb33 := NB264_263.out; have hnc33 := NB263_264.out; have hcz34_0 : w31.cell? ⟨gb264, 0, none⟩ = some (.int .u64 x265000_1) := (blk_cell BK264.out 0).trans rfl; have hcz34_1 : w31.cell? ⟨gb264, 1, none⟩ = some (.int .u64 x265001_1) := (blk_cell BK264.out 1).trans rfl; have hfz34_0 := blk_frozen BK264.out 0; have hfz34_1 := blk_frozen BK264.out 1) | ((with_reducible refine gate_callee (f := 19) rfl ?_); refine goesL_ (some 31) rfl rfl Try.func19 (by kernel_rfl) rfl #[.agg #[.int .u64 x265000_1, .int .u64 x265001_1], .int .i64 1] rfl aA ?_; (with_reducible refine (backfillref01_Shl.calls x265000_1 x265001_1 1 t267 t268 _ A16.out).mono ?_); rintro e w35 ⟨rfl, hb⟩; refine ⟨_, rfl, ?_⟩; have n0_ := Aside0.mk (blk_below (g := gb262) (o := .cells #[.int .u64 t265, .int .u64 t266] 28 (0, 0)) (by (with_reducible repeat (first | refine blk_drewN ?_ _ | refine blk_drew ?_ | refine blk_alloc ?_ _)); refine blk_put (cs := #[.int .u64 t265, .int .u64 x263001_1]) ?_ 1 _ rfl; (with_reducible repeat (first | refine blk_drewN ?_ _ | refine blk_drew ?_ | refine blk_alloc ?_ _)); refine blk_put (cs := #[.int .u64 x263000_1, .int .u64 x263001_1]) ?_ 0 _ rfl; (with_reducible repeat (first | refine blk_drewN ?_ _ | refine blk_drew ?_ | refine blk_alloc ?_ _)); exact BK262.out) hb); have n1_ := Aside0.mk (blk_below (g := gb263) (o := .cells #[.int .u64 0, .int .u64 0] 28 (0, 0)) (by (with_reducible repeat (first | refine blk_drewN ?_ _ | refine blk_drew ?_ | refine blk_alloc ?_ _)); refine blk_far ?_ NB263_262.out _; (with_reducible repeat (first | refine blk_drewN ?_ _ | refine blk_drew ?_ | refine blk_alloc ?_ _)); refine blk_far ?_ NB263_262.out _; (with_reducible repeat (first | refine blk_drewN ?_ _ | refine blk_drew ?_ | refine blk_alloc ?_ _)); exact BK263.out) hb); have n2_ := Aside0.mk (blk_below (g := gb264) (o := .cells #[.int .u64 x265000_1, .int .u64 x265001_1] 28 (0, 0)) (by (with_reducible repeat (first | refine blk_drewN ?_ _ | refine blk_drew ?_ | refine blk_alloc ?_ _)); refine blk_far ?_ NB264_262.out _; (with_reducible repeat (first | refine blk_drewN ?_ _ | refine blk_drew ?_ | refine blk_alloc ?_ _)); refine blk_far ?_ NB264_262.out _; (with_reducible repeat (first | refine blk_drewN ?_ _ | refine blk_drew ?_ | refine blk_alloc ?_ _)); exact BK264.out) hb); have n3_ := Aside0.mk (below_step bA hb); clear BK262 BK263 BK264 HB; have BK262 := n0_; have BK263 := n1_; have BK264 := n2_; have HB := n3_; clear n0_ n1_ n2_ n3_; (try clear hb); have hcz36_0 : w35.cell? ⟨gb264, 0, none⟩ = some (.int .u64 x265000_1) := (blk_cell BK264.out 0).trans rfl; have hcz36_1 : w35.cell? ⟨gb264, 1, none⟩ = some (.int .u64 x265001_1) := (blk_cell BK264.out 1).trans rfl; have hfz36_0 := blk_frozen BK264.out 0; have hfz36_1 := blk_frozen BK264.out 1))
       go_roundg k1
       case measure => have := HK1.out; omega
       case rel => exact ⟨(IntKind.u64.wrap ((IntKind.u64.wrap ((IntKind.u64.wrap (x8_1 * 2)) + (x263000_1 / 9223372036854775808))) - a1)), (wrap64 (x9_1 + 1)), (t265), (t266), (t267), (IntKind.u64.wrap (t268 + 1)), (by first | rfl | (simp; done) | (simp [*]; done)), (by first | rfl | (simp; done) | (simp [*]; done)), H', ⟨by have := HK1.out; omega⟩, ⟨by (with_reducible repeat (first | refine blk_drewN ?_ _ | refine blk_drew ?_ | refine blk_alloc ?_ _)); refine blk_far ?_ NB262_264.out _; (with_reducible repeat (first | refine blk_drewN ?_ _ | refine blk_drew ?_ | refine blk_alloc ?_ _)); refine blk_far ?_ NB262_264.out _; (with_reducible repeat (first | refine blk_drewN ?_ _ | refine blk_drew ?_ | refine blk_alloc ?_ _)); refine blk_far ?_ NB262_264.out _; (with_reducible repeat (first | refine blk_drewN ?_ _ | refine blk_drew ?_ | refine blk_alloc ?_ _)); exact BK262.out⟩, ⟨by (with_reducible repeat (first | refine blk_drewN ?_ _ | refine blk_drew ?_ | refine blk_alloc ?_ _)); refine blk_far ?_ NB263_264.out _; (with_reducible repeat (first | refine blk_drewN ?_ _ | refine blk_drew ?_ | refine blk_alloc ?_ _)); refine blk_far ?_ NB263_264.out _; (with_reducible repeat (first | refine blk_drewN ?_ _ | refine blk_drew ?_ | refine blk_alloc ?_ _)); refine blk_far ?_ NB263_264.out _; (with_reducible repeat (first | refine blk_drewN ?_ _ | refine blk_drew ?_ | refine blk_alloc ?_ _)); exact BK263.out⟩, ⟨by (with_reducible repeat (first | refine blk_drewN ?_ _ | refine blk_drew ?_ | refine blk_alloc ?_ _)); refine blk_put (cs := #[.int .u64 t267, .int .u64 t268]) ?_ 1 _ rfl; (with_reducible repeat (first | refine blk_drewN ?_ _ | refine blk_drew ?_ | refine blk_alloc ?_ _)); refine blk_put (cs := #[.int .u64 t267, .int .u64 x265001_1]) ?_ 1 _ rfl; (with_reducible repeat (first | refine blk_drewN ?_ _ | refine blk_drew ?_ | refine blk_alloc ?_ _)); refine blk_put (cs := #[.int .u64 x265000_1, .int .u64 x265001_1]) ?_ 0 _ rfl; (with_reducible repeat (first | refine blk_drewN ?_ _ | refine blk_drew ?_ | refine blk_alloc ?_ _)); exact BK264.out⟩, ⟨bA⟩⟩
      ·rw [if_neg c27] at H
       have c27b0 : decide (a1 ≤ (IntKind.u64.wrap ((IntKind.u64.wrap (x8_1 * 2)) + (x263000_1 / 9223372036854775808)))) = false := decide_eq_false c27
       clear c27
       have H' := Aside0.mk H
       clear H
       have hnb37 := NB262_263.out
       have hnc37 := NB263_262.out
       have hnb38 := NB262_264.out
       have hnc38 := NB264_262.out
       have hcz39_0 : wr.cell? ⟨gb262, 0, none⟩ = some (.int .u64 x263000_1) := (blk_cell BK262.out 0).trans rfl
       have hcz39_1 : wr.cell? ⟨gb262, 1, none⟩ = some (.int .u64 x263001_1) := (blk_cell BK262.out 1).trans rfl
       have hfz39_0 := blk_frozen BK262.out 0
       have hfz39_1 := blk_frozen BK262.out 1
       go_wp2_with (first | ((with_reducible refine gate_callee (f := 19) rfl ?_); refine goesL_ (some 29) rfl rfl Try.func19 (by kernel_rfl) rfl #[.agg #[.int .u64 x263000_1, .int .u64 x263001_1], .int .i64 1] rfl aA ?_; (with_reducible refine (backfillref01_Shl.calls x263000_1 x263001_1 1 t265 t266 _ A15.out).mono ?_); rintro e w40 ⟨rfl, hb⟩; refine ⟨_, rfl, ?_⟩; have n0_ := Aside0.mk (blk_below (g := gb262) (o := .cells #[.int .u64 x263000_1, .int .u64 x263001_1] 28 (0, 0)) kA hb); have n1_ := Aside0.mk (blk_below (g := gb263) (o := .cells #[.int .u64 0, .int .u64 0] 28 (0, 0)) kA hb); have n2_ := Aside0.mk (blk_below (g := gb264) (o := .cells #[.int .u64 x265000_1, .int .u64 x265001_1] 28 (0, 0)) kA hb); have n3_ := Aside0.mk (below_step bA hb); clear BK262 BK263 BK264 HB; have BK262 := n0_; have BK263 := n1_; have BK264 := n2_; have HB := n3_; clear n0_ n1_ n2_ n3_; (try clear hb); have hcz41_0 : w40.cell? ⟨gb262, 0, none⟩ = some (.int .u64 x263000_1) := (blk_cell BK262.out 0).trans rfl; have hcz41_1 : w40.cell? ⟨gb262, 1, none⟩ = some (.int .u64 x263001_1) := (blk_cell BK262.out 1).trans rfl; have hfz41_0 := blk_frozen BK262.out 0; have hfz41_1 := blk_frozen BK262.out 1; have hnb42 := NB264_263.out; have hnc42 := NB263_264.out; have hcz43_0 : w40.cell? ⟨gb264, 0, none⟩ = some (.int .u64 x265000_1) := (blk_cell BK264.out 0).trans rfl; have hcz43_1 : w40.cell? ⟨gb264, 1, none⟩ = some (.int .u64 x265001_1) := (blk_cell BK264.out 1).trans rfl; have hfz43_0 := blk_frozen BK264.out 0; have hfz43_1 := blk_frozen BK264.out 1) | ((with_reducible refine gate_callee (f := 19) rfl ?_); refine goesL_ (some 31) rfl rfl Try.func19 (by kernel_rfl) rfl #[.agg #[.int .u64 x265000_1, .int .u64 x265001_1], .int .i64 1] rfl aA ?_; (with_reducible refine (backfillref01_Shl.calls x265000_1 x265001_1 1 t267 t268 _ A16.out).mono ?_); rintro e w44 ⟨rfl, hb⟩; refine ⟨_, rfl, ?_⟩; have n0_ := Aside0.mk (blk_below (g := gb262) (o := .cells #[.int .u64 t265, .int .u64 t266] 28 (0, 0)) (by (with_reducible repeat (first | refine blk_drewN ?_ _ | refine blk_drew ?_ | refine blk_alloc ?_ _)); refine blk_put (cs := #[.int .u64 t265, .int .u64 x263001_1]) ?_ 1 _ rfl; (with_reducible repeat (first | refine blk_drewN ?_ _ | refine blk_drew ?_ | refine blk_alloc ?_ _)); refine blk_put (cs := #[.int .u64 x263000_1, .int .u64 x263001_1]) ?_ 0 _ rfl; (with_reducible repeat (first | refine blk_drewN ?_ _ | refine blk_drew ?_ | refine blk_alloc ?_ _)); exact BK262.out) hb); have n1_ := Aside0.mk (blk_below (g := gb263) (o := .cells #[.int .u64 0, .int .u64 0] 28 (0, 0)) (by (with_reducible repeat (first | refine blk_drewN ?_ _ | refine blk_drew ?_ | refine blk_alloc ?_ _)); refine blk_far ?_ NB263_262.out _; (with_reducible repeat (first | refine blk_drewN ?_ _ | refine blk_drew ?_ | refine blk_alloc ?_ _)); refine blk_far ?_ NB263_262.out _; (with_reducible repeat (first | refine blk_drewN ?_ _ | refine blk_drew ?_ | refine blk_alloc ?_ _)); exact BK263.out) hb); have n2_ := Aside0.mk (blk_below (g := gb264) (o := .cells #[.int .u64 x265000_1, .int .u64 x265001_1] 28 (0, 0)) (by (with_reducible repeat (first | refine blk_drewN ?_ _ | refine blk_drew ?_ | refine blk_alloc ?_ _)); refine blk_far ?_ NB264_262.out _; (with_reducible repeat (first | refine blk_drewN ?_ _ | refine blk_drew ?_ | refine blk_alloc ?_ _)); refine blk_far ?_ NB264_262.out _; (with_reducible repeat (first | refine blk_drewN ?_ _ | refine blk_drew ?_ | refine blk_alloc ?_ _)); exact BK264.out) hb); have n3_ := Aside0.mk (below_step bA hb); clear BK262 BK263 BK264 HB; have BK262 := n0_; have BK263 := n1_; have BK264 := n2_; have HB := n3_; clear n0_ n1_ n2_ n3_; (try clear hb); have hcz45_0 : w44.cell? ⟨gb264, 0, none⟩ = some (.int .u64 x265000_1) := (blk_cell BK264.out 0).trans rfl; have hcz45_1 : w44.cell? ⟨gb264, 1, none⟩ = some (.int .u64 x265001_1) := (blk_cell BK264.out 1).trans rfl; have hfz45_0 := blk_frozen BK264.out 0; have hfz45_1 := blk_frozen BK264.out 1))
       go_roundg k1
       case measure => have := HK1.out; omega
       case rel => exact ⟨(IntKind.u64.wrap ((IntKind.u64.wrap (x8_1 * 2)) + (x263000_1 / 9223372036854775808))), (wrap64 (x9_1 + 1)), (t265), (t266), (t267), (t268), (by first | rfl | (simp; done) | (simp [*]; done)), (by first | rfl | (simp; done) | (simp [*]; done)), H', ⟨by have := HK1.out; omega⟩, ⟨by (with_reducible repeat (first | refine blk_drewN ?_ _ | refine blk_drew ?_ | refine blk_alloc ?_ _)); refine blk_far ?_ NB262_264.out _; (with_reducible repeat (first | refine blk_drewN ?_ _ | refine blk_drew ?_ | refine blk_alloc ?_ _)); refine blk_far ?_ NB262_264.out _; (with_reducible repeat (first | refine blk_drewN ?_ _ | refine blk_drew ?_ | refine blk_alloc ?_ _)); exact BK262.out⟩, ⟨by (with_reducible repeat (first | refine blk_drewN ?_ _ | refine blk_drew ?_ | refine blk_alloc ?_ _)); refine blk_far ?_ NB263_264.out _; (with_reducible repeat (first | refine blk_drewN ?_ _ | refine blk_drew ?_ | refine blk_alloc ?_ _)); refine blk_far ?_ NB263_264.out _; (with_reducible repeat (first | refine blk_drewN ?_ _ | refine blk_drew ?_ | refine blk_alloc ?_ _)); exact BK263.out⟩, ⟨by (with_reducible repeat (first | refine blk_drewN ?_ _ | refine blk_drew ?_ | refine blk_alloc ?_ _)); refine blk_put (cs := #[.int .u64 t267, .int .u64 x265001_1]) ?_ 1 _ rfl; (with_reducible repeat (first | refine blk_drewN ?_ _ | refine blk_drew ?_ | refine blk_alloc ?_ _)); refine blk_put (cs := #[.int .u64 x265000_1, .int .u64 x265001_1]) ?_ 0 _ rfl; (with_reducible repeat (first | refine blk_drewN ?_ _ | refine blk_drew ?_ | refine blk_alloc ?_ _)); exact BK264.out⟩, ⟨bA⟩⟩
    ·rw [if_neg c14] at H
     have c14b0 : decide (x9_1 < 128) = false := decide_eq_false c14
     clear c14
     simp only [Option.some.injEq, Prod.mk.injEq] at H
     obtain ⟨rfl, rfl, rfl, rfl⟩ := H
     have hnb46 := NB264_262.out
     have hnc46 := NB262_264.out
     have hnb47 := NB264_263.out
     have hnc47 := NB263_264.out
     have hcz48_0 : wr.cell? ⟨gb264, 0, none⟩ = some (.int .u64 x265000_1) := (blk_cell BK264.out 0).trans rfl
     have hcz48_1 : wr.cell? ⟨gb264, 1, none⟩ = some (.int .u64 x265001_1) := (blk_cell BK264.out 1).trans rfl
     have hfz48_0 := blk_frozen BK264.out 0
     have hfz48_1 := blk_frozen BK264.out 1
     have hnb49 := NB263_262.out
     have hnc49 := NB262_263.out
     have hcz50_0 : wr.cell? ⟨gb263, 0, none⟩ = some (.int .u64 0) := (blk_cell BK263.out 0).trans rfl
     have hcz50_1 : wr.cell? ⟨gb263, 1, none⟩ = some (.int .u64 0) := (blk_cell BK263.out 1).trans rfl
     have hfz50_0 := blk_frozen BK263.out 0
     have hfz50_1 := blk_frozen BK263.out 1
     go_wp2
     refine bodyPost_ret (results_ctt rfl _ _ gb263 28 #[.int .u64 x265000_1, .int .u64 x265001_1] (0, 0) _ rfl (by (with_reducible repeat (first | refine blk_drewN ?_ _ | refine blk_drew ?_ | refine blk_alloc ?_ _)); refine blk_put (cs := #[.int .u64 x265000_1, .int .u64 0]) ?_ 1 _ rfl; (with_reducible repeat (first | refine blk_drewN ?_ _ | refine blk_drew ?_ | refine blk_alloc ?_ _)); refine blk_put (cs := #[.int .u64 0, .int .u64 0]) ?_ 0 _ rfl; (with_reducible repeat (first | refine blk_drewN ?_ _ | refine blk_drew ?_ | refine blk_alloc ?_ _)); exact BK263.out) Try.underlying28 rfl (by kernel_rfl)) rfl ?_
     exact ⟨by first | rfl | (simp [errW_none, errW_some] <;> rfl) | (simp [*, errW_none, errW_some] <;> rfl), bA⟩

/-! ### wide_Shr: function 20 -/
def wide_Shr.f (a0_0 : Int) (a0_1 : Int) (a1 : Int) : Option (Int × Int) := if a1 ≤ 0 then (some (a0_0, a0_1)) else (if a1 < 64 then (if 0 ≤ a1 then (if 0 ≤ (wrap64 (64 - a1)) then (some (shr .u64 a0_0 a1, Go.bits .or .u64 (shr .u64 a0_1 a1) (shl .u64 a0_0 (wrap64 (64 - a1))))) else (none)) else (none)) else (if a1 < 128 then (if 0 ≤ (wrap64 (a1 - 64)) then (some (0, shr .u64 a0_0 (wrap64 (a1 - 64)))) else (none)) else (some (0, 0))))
def wide_Shr.T4 : Bool × List (List Nat × List Nat) := (true, [([], []), ([0], [0]), ([], []), ([1, 2], [1, 2]), ([], []), ([4], [4]), ([], []), ([5, 6], [5, 6]), ([], []), ([8], [8]), ([], []), ([10], [10]), ([9, 11], [9, 11]), ([7, 12], [7, 12]), ([3, 13], [3, 13]), ([14, 0, 1, 2, 3, 4, 5, 6, 7, 8, 9, 10, 11, 12, 13, 14], [14])])
def wide_Shr.B4 : List Nat := [0, 1, 0, 7, 0, 16, 0, 112, 0, 256, 0, 1024, 3840, 8176, 16383, 32767]
theorem wide_Shr.tab4 : rtab .any (opsOf Try.f20 4) = wide_Shr.T4 := by kernel_rfl
theorem wide_Shr.bits4 : waitsOk wide_Shr.T4.2 wide_Shr.B4 = true := by kernel_rfl
set_option maxHeartbeats 8000000 in
set_option maxRecDepth 100000 in
theorem wide_Shr.calls (a0_0 : Int) (a0_1 : Int) (a1 : Int) (r1 : Int) (r2 : Int) (w : World) (h : wide_Shr.f a0_0 a0_1 a1 = some (r1, r2)) :
  Calls Try.prog 20 #[.agg #[.int .u64 a0_0, .int .u64 a0_1], .int .i64 a1] w fun e w' => e = .returned (.agg #[.int .u64 r1, .int .u64 r2]) ∧ Below w.heap.size w w' := by
 have hu25 := Try.underlying25
 have HB := Aside0.mk (Below.refl w.heap.size w)
 have H : (if a1 ≤ 0 then (some (a0_0, a0_1)) else (if a1 < 64 then (if 0 ≤ a1 then (if 0 ≤ (wrap64 (64 - a1)) then (some (shr .u64 a0_0 a1, Go.bits .or .u64 (shr .u64 a0_1 a1) (shl .u64 a0_0 (wrap64 (64 - a1))))) else (none)) else (none)) else (if a1 < 128 then (if 0 ≤ (wrap64 (a1 - 64)) then (some (0, shr .u64 a0_0 (wrap64 (a1 - 64)))) else (none)) else (some (0, 0))))) = some (r1, r2) := h
 clear h
 by_cases c3 : a1 ≤ 0
 ·rw [if_pos c3] at H
  have c3b0 : decide (a1 ≤ 0) = true := decide_eq_true c3
  clear c3
  simp only [Option.some.injEq, Prod.mk.injEq] at H
  obtain ⟨rfl, rfl⟩ := H
  go_enter Try.func20, Try.ntmps20
  go_wp2_with (first | ((with_reducible refine gate_dst (N := 2) rfl ?_); refine bxA 2 #[.int .u64 a0_0, .int .u64 a0_1] 25 ?_; intro gb269 hg w4 hbox hb; have n0_ := Aside0.mk (below_step bA hb); have n1_ := Aside0.mk (hbox); have n2_ := Aside0.mk ((by rw [hg]; exact (below_size bA) : w.heap.size ≤ gb269)); have n3_ := Aside0.mk ((by rw [hg]; exact (below_size bA) : w.heap.size ≤ gb269)); clear HB; have HB := n0_; have BK269 := n1_; have GW269 := n2_; have GE269 := n3_; clear n0_ n1_ n2_ n3_ hb hbox hg) | ((with_reducible refine gate_dst (N := 4) rfl ?_); refine bxA 4 #[.int .u64 0, .int .u64 0] 25 ?_; intro gb270 hg w5 hbox hb; have n0_ := Aside0.mk (blk_below (g := gb269) (o := .cells #[.int .u64 a0_0, .int .u64 a0_1] 25 (0, 0)) kA hb); have n1_ := Aside0.mk (below_step bA hb); have n2_ := Aside0.mk (hbox); have n3_ := Aside0.mk ((by rw [hg]; exact (below_size bA) : w.heap.size ≤ gb270)); have n4_ := Aside0.mk ((by rw [hg]; exact (below_size bA) : w.heap.size ≤ gb270)); have n5_ := Aside0.mk ((by rw [hg]; exact Nat.ne_of_lt (blk_lt (g := gb269) (o := .cells #[.int .u64 a0_0, .int .u64 a0_1] 25 (0, 0)) kA) : gb269 ≠ gb270)); have n6_ := Aside0.mk ((by rw [hg]; exact Nat.ne_of_gt (blk_lt (g := gb269) (o := .cells #[.int .u64 a0_0, .int .u64 a0_1] 25 (0, 0)) kA) : gb270 ≠ gb269)); clear BK269 HB; have BK269 := n0_; have HB := n1_; have BK270 := n2_; have GW270 := n3_; have GE270 := n4_; have NB269_270 := n5_; have NB270_269 := n6_; clear n0_ n1_ n2_ n3_ n4_ n5_ n6_ hb hbox hg; have hnb6 := NB269_270.out; have hnc6 := NB270_269.out; have hcz7_0 : w5.cell? ⟨gb269, 0, none⟩ = some (.int .u64 a0_0) := (blk_cell BK269.out 0).trans rfl; have hcz7_1 : w5.cell? ⟨gb269, 1, none⟩ = some (.int .u64 a0_1) := (blk_cell BK269.out 1).trans rfl; have hfz7_0 := blk_frozen BK269.out 0; have hfz7_1 := blk_frozen BK269.out 1; have hcz8_0 : w5.cell? ⟨gb270, 0, none⟩ = some (.int .u64 0) := (blk_cell BK270.out 0).trans rfl; have hcz8_1 : w5.cell? ⟨gb270, 1, none⟩ = some (.int .u64 0) := (blk_cell BK270.out 1).trans rfl; have hfz8_0 := blk_frozen BK270.out 0; have hfz8_1 := blk_frozen BK270.out 1))
  refine bodyPost_ret (results_cell_row rfl _ _ gb270 25 #[.int .u64 a0_0, .int .u64 a0_1] (0, 0) _ rfl (by (with_reducible repeat (first | refine blk_drewN ?_ _ | refine blk_drew ?_ | refine blk_alloc ?_ _)); refine blk_put (cs := #[.int .u64 a0_0, .int .u64 0]) ?_ 1 _ rfl; (with_reducible repeat (first | refine blk_drewN ?_ _ | refine blk_drew ?_ | refine blk_alloc ?_ _)); refine blk_put (cs := #[.int .u64 0, .int .u64 0]) ?_ 0 _ rfl; (with_reducible repeat (first | refine blk_drewN ?_ _ | refine blk_drew ?_ | refine blk_alloc ?_ _)); exact BK270.out) Try.underlying25 rfl (by kernel_rfl)) rfl ?_
  exact ⟨by first | rfl | (simp [errW_none, errW_some] <;> rfl) | (simp [*, errW_none, errW_some] <;> rfl), bA⟩
 ·rw [if_neg c3] at H
  have c3b0 : decide (a1 ≤ 0) = false := decide_eq_false c3
  clear c3
  by_cases c9 : a1 < 64
  ·rw [if_pos c9] at H
   have c9b0 : decide (a1 < 64) = true := decide_eq_true c9
   clear c9
   by_cases c10 : 0 ≤ a1
   ·rw [if_pos c10] at H
    have c10b0 := eq_true c10
    have c10b1 : decide (0 ≤ a1) = true := decide_eq_true c10
    clear c10
    obtain ⟨ji11, hji11⟩ : ∃ j_ : Int, (shr .u64 a0_0 a1) = j_ := ⟨_, rfl⟩
    replace H : (if 0 ≤ (wrap64 (64 - a1)) then (some (ji11, Go.bits .or .u64 (shr .u64 a0_1 a1) (shl .u64 a0_0 (wrap64 (64 - a1))))) else (none)) = some (r1, r2) := by first | (rw [hji11] at H; exact H) | (simp only [hji11] at H ⊢; exact H)
    have hji11_ : (a0_0 / 2 ^ min a1.toNat 64) = ji11 := hji11
    have hji11z : a1 ≤ 64 → (a0_0 / 2 ^ a1.toNat) = ji11 := shr_small hji11
    have c12b0 := eq_true (of_decide_eq_true (by first | (with_reducible assumption) | assumption) : 0 ≤ a1)
    obtain ⟨ji13, hji13⟩ : ∃ j_ : Int, (shr .u64 a0_1 a1) = j_ := ⟨_, rfl⟩
    replace H : (if 0 ≤ (wrap64 (64 - a1)) then (some (ji11, Go.bits .or .u64 (ji13) (shl .u64 a0_0 (wrap64 (64 - a1))))) else (none)) = some (r1, r2) := by first | (rw [hji13] at H; exact H) | (simp only [hji13] at H ⊢; exact H)
    have hji13_ : (a0_1 / 2 ^ min a1.toNat 64) = ji13 := hji13
    have hji13z : a1 ≤ 64 → (a0_1 / 2 ^ a1.toNat) = ji13 := shr_small hji13
    obtain ⟨ji14, hji14⟩ : ∃ j_ : Int, (wrap64 (64 - a1)) = j_ := ⟨_, rfl⟩
    replace H : (if 0 ≤ (ji14) then (some (ji11, Go.bits .or .u64 (ji13) (shl .u64 a0_0 (ji14)))) else (none)) = some (r1, r2) := by first | (rw [hji14] at H; exact H) | (simp only [hji14] at H ⊢; exact H)
    have hji14w : (IntKind.i64.wrap (64 - a1)) = ji14 := (i64_w _).trans hji14
    by_cases c15 : 0 ≤ (ji14)
    ·rw [if_pos c15] at H
     have c15b0 := eq_true c15
     have c15b1 : decide (0 ≤ (ji14)) = true := decide_eq_true c15
     clear c15
     obtain ⟨ji16, hji16⟩ : ∃ j_ : Int, (shl .u64 a0_0 (ji14)) = j_ := ⟨_, rfl⟩
     replace H : (some (ji11, Go.bits .or .u64 (ji13) (ji16))) = some (r1, r2) := by first | (rw [hji16] at H; exact H) | (simp only [hji16] at H ⊢; exact H)
     have hji16_ : (IntKind.u64.wrap (a0_0 * 2 ^ min (ji14).toNat 64)) = ji16 := hji16
     have hji16z : (ji14) ≤ 64 → (IntKind.u64.wrap (a0_0 * 2 ^ (ji14).toNat)) = ji16 := shl_small hji16
     simp only [Option.some.injEq, Prod.mk.injEq] at H
     obtain ⟨rfl, rfl⟩ := H
     go_enter Try.func20, Try.ntmps20
     try go_wp2_with (first | ((with_reducible refine gate_dst (N := 2) rfl ?_); refine bxA 2 #[.int .u64 a0_0, .int .u64 a0_1] 25 ?_; intro gb269 hg w17 hbox hb; have n0_ := Aside0.mk (below_step bA hb); have n1_ := Aside0.mk (hbox); have n2_ := Aside0.mk ((by rw [hg]; exact (below_size bA) : w.heap.size ≤ gb269)); have n3_ := Aside0.mk ((by rw [hg]; exact (below_size bA) : w.heap.size ≤ gb269)); clear HB; have HB := n0_; have BK269 := n1_; have GW269 := n2_; have GE269 := n3_; clear n0_ n1_ n2_ n3_ hb hbox hg) | ((with_reducible refine gate_dst (N := 4) rfl ?_); refine bxA 4 #[.int .u64 0, .int .u64 0] 25 ?_; intro gb270 hg w18 hbox hb; have n0_ := Aside0.mk (blk_below (g := gb269) (o := .cells #[.int .u64 a0_0, .int .u64 a0_1] 25 (0, 0)) kA hb); have n1_ := Aside0.mk (below_step bA hb); have n2_ := Aside0.mk (hbox); have n3_ := Aside0.mk ((by rw [hg]; exact (below_size bA) : w.heap.size ≤ gb270)); have n4_ := Aside0.mk ((by rw [hg]; exact (below_size bA) : w.heap.size ≤ gb270)); have n5_ := Aside0.mk ((by rw [hg]; exact Nat.ne_of_lt (blk_lt (g := gb269) (o := .cells #[.int .u64 a0_0, .int .u64 a0_1] 25 (0, 0)) kA) : gb269 ≠ gb270)); have n6_ := Aside0.mk ((by rw [hg]; exact Nat.ne_of_gt (blk_lt (g := gb269) (o := .cells #[.int .u64 a0_0, .int .u64 a0_1] 25 (0, 0)) kA) : gb270 ≠ gb269)); clear BK269 HB; have BK269 := n0_; have HB := n1_; have BK270 := n2_; have GW270 := n3_; have GE270 := n4_; have NB269_270 := n5_; have NB270_269 := n6_; clear n0_ n1_ n2_ n3_ n4_ n5_ n6_ hb hbox hg))
     have n0_ := Aside0.mk (blk_drew BK269.out); have n1_ := Aside0.mk (blk_drew BK270.out); have n2_ := Aside0.mk (below_drew1 HB.out); clear BK269 BK270 HB; have BK269 := n0_; have BK270 := n1_; have HB := n2_; clear n0_ n1_ n2_
     refine start_ (n := 16) (S := fun w' => w'.cell? ⟨gb269, 0, none⟩ = some (.int .u64 a0_0) ∧ w'.cell? ⟨gb269, 1, none⟩ = some (.int .u64 a0_1)) (ds := []) #[false, false, false, false, false, false, false, false, false, false, false, false, false, false, false, false] (by kernel_rfl) rfl rfl ⟨(blk_cell BK269.out 0).trans rfl, (blk_cell BK269.out 1).trans rfl⟩ (fun hHeld => ?_); refine with_tabW wide_Shr.tab4 wide_Shr.bits4 (fun HT_ HW_ => ?_)
     generalize w18.drew = w19 at BK269 BK270 HB hHeld ⊢
     refine pure_ (i := 0) (N := some 12) (v := ?_) (a' := ?_) #[true, false, false, false, false, false, false, false, false, false, false, false, false, false, false, false] rfl rfl (any_of HT_.out (by kernel_rfl)) (fun _ _ _ h => h) (Or.inl ⟨by rfl, ?_⟩) ?_ ?_
     rotate_left
     ·intro w'
      go_simp; with_reducible rfl
     rotate_left
     ·simp only [Act.put, List.setIfInBounds_toArray, List.set_cons_zero, List.set_cons_succ, i64_w, i32_w]
      rfl
     refine pure_ (i := 2) (N := some 14) (v := ?_) (a' := ?_) #[true, false, true, false, false, false, false, false, false, false, false, false, false, false, false, false] rfl rfl (any_of HT_.out (by kernel_rfl)) (fun _ _ _ h => h) (Or.inl ⟨by rfl, ?_⟩) ?_ ?_
     rotate_left
     ·intro w'
      go_simp; with_reducible rfl
     rotate_left
     ·simp only [Act.put, List.setIfInBounds_toArray, List.set_cons_zero, List.set_cons_succ, i64_w, i32_w]
      rfl
     refine pure_ (i := 4) (N := some 16) (v := ?_) (a' := ?_) #[true, false, true, false, true, false, false, false, false, false, false, false, false, false, false, false] rfl rfl (any_of HT_.out (by kernel_rfl)) (fun _ _ _ h => h) (Or.inl ⟨by rfl, ?_⟩) ?_ ?_
     rotate_left
     ·intro w'
      go_simp; with_reducible rfl
     rotate_left
     ·simp only [Act.put, List.setIfInBounds_toArray, List.set_cons_zero, List.set_cons_succ, i64_w, i32_w]
      rfl
     refine pure_ (i := 6) (N := some 18) (v := ?_) (a' := ?_) #[true, false, true, false, true, false, true, false, false, false, false, false, false, false, false, false] rfl rfl (any_of HT_.out (by kernel_rfl)) (fun _ _ _ h => h) (Or.inl ⟨by rfl, ?_⟩) ?_ ?_
     rotate_left
     ·intro w'
      go_simp; with_reducible rfl
     rotate_left
     ·simp only [Act.put, List.setIfInBounds_toArray, List.set_cons_zero, List.set_cons_succ, i64_w, i32_w]
      rfl
     refine pure_ (i := 8) (N := some 20) (v := ?_) (a' := ?_) #[true, false, true, false, true, false, true, false, true, false, false, false, false, false, false, false] rfl rfl (any_of HT_.out (by kernel_rfl)) (fun _ _ _ h => h) (Or.inl ⟨by rfl, ?_⟩) ?_ ?_
     rotate_left
     ·intro w'
      go_simp; with_reducible rfl
     rotate_left
     ·simp only [Act.put, List.setIfInBounds_toArray, List.set_cons_zero, List.set_cons_succ, i64_w, i32_w]
      rfl
     refine pure_ (i := 10) (N := some 22) (v := ?_) (a' := ?_) #[true, false, true, false, true, false, true, false, true, false, true, false, false, false, false, false] rfl rfl (any_of HT_.out (by kernel_rfl)) (fun _ _ _ h => h) (Or.inl ⟨by rfl, ?_⟩) ?_ ?_
     rotate_left
     ·intro w'
      go_simp; with_reducible rfl
     rotate_left
     ·simp only [Act.put, List.setIfInBounds_toArray, List.set_cons_zero, List.set_cons_succ, i64_w, i32_w]
      rfl
     refine pure_ (i := 11) (N := some 23) (v := ?_) (a' := ?_) #[true, false, true, false, true, false, true, false, true, false, true, true, false, false, false, false] rfl rfl (any_of HT_.out (by kernel_rfl)) (fun _ _ _ h => h) (Or.inl ⟨by rfl, ?_⟩) ?_ ?_
     rotate_left
     ·intro w'
      go_simp; with_reducible rfl
     rotate_left
     ·simp only [Act.put, List.setIfInBounds_toArray, List.set_cons_zero, List.set_cons_succ, i64_w, i32_w]
      rfl
     refine take_ (i := 1) (N := some 13) (v := ?_) (a' := ?_) #[true, true, true, false, true, false, true, false, true, false, true, true, false, false, false, false] rfl rfl (take_ofW HT_.out HW_.out (by kernel_rfl)) (fun _ _ _ h => h) (Or.inl ⟨by rfl, ?_⟩) hHeld ?_ ?_
     rotate_left
     ·rintro w' ⟨s0, s1⟩
      go_simp; with_reducible rfl
     rotate_left
     ·simp only [Act.put, List.setIfInBounds_toArray, List.set_cons_zero, List.set_cons_succ, i64_w, i32_w]
      rfl
     refine pure_ (i := 3) (N := some 15) (v := ?_) (a' := ?_) #[true, true, true, true, true, false, true, false, true, false, true, true, false, false, false, false] rfl rfl (any_of HT_.out (by kernel_rfl)) (fun _ _ _ h => h) (Or.inl ⟨by rfl, ?_⟩) ?_ ?_
     rotate_left
     ·intro w'
      go_simp; with_reducible rfl
     rotate_left
     ·simp only [Act.put, List.setIfInBounds_toArray, List.set_cons_zero, List.set_cons_succ, i64_w, i32_w]
      rfl
     refine take_ (i := 5) (N := some 17) (v := ?_) (a' := ?_) #[true, true, true, true, true, true, true, false, true, false, true, true, false, false, false, false] rfl rfl (take_ofW HT_.out HW_.out (by kernel_rfl)) (fun _ _ _ h => h) (Or.inl ⟨by rfl, ?_⟩) hHeld ?_ ?_
     rotate_left
     ·rintro w' ⟨s0, s1⟩
      go_simp; with_reducible rfl
     rotate_left
     ·simp only [Act.put, List.setIfInBounds_toArray, List.set_cons_zero, List.set_cons_succ, i64_w, i32_w]
      rfl
     refine pure_ (i := 7) (N := some 19) (v := ?_) (a' := ?_) #[true, true, true, true, true, true, true, true, true, false, true, true, false, false, false, false] rfl rfl (any_of HT_.out (by kernel_rfl)) (fun _ _ _ h => h) (Or.inl ⟨by rfl, ?_⟩) ?_ ?_
     rotate_left
     ·intro w'
      go_simp; with_reducible rfl
     rotate_left
     ·simp only [Act.put, List.setIfInBounds_toArray, List.set_cons_zero, List.set_cons_succ, i64_w, i32_w]
      rfl
     refine take_ (i := 9) (N := some 21) (v := ?_) (a' := ?_) #[true, true, true, true, true, true, true, true, true, true, true, true, false, false, false, false] rfl rfl (take_ofW HT_.out HW_.out (by kernel_rfl)) (fun _ _ _ h => h) (Or.inl ⟨by rfl, ?_⟩) hHeld ?_ ?_
     rotate_left
     ·rintro w' ⟨s0, s1⟩
      go_simp; with_reducible rfl
     rotate_left
     ·simp only [Act.put, List.setIfInBounds_toArray, List.set_cons_zero, List.set_cons_succ, i64_w, i32_w]
      rfl
     refine pure_ (i := 12) (N := some 24) (v := ?_) (a' := ?_) #[true, true, true, true, true, true, true, true, true, true, true, true, true, false, false, false] rfl rfl (any_of HT_.out (by kernel_rfl)) (fun _ _ _ h => h) (Or.inl ⟨by rfl, ?_⟩) ?_ ?_
     rotate_left
     ·intro w'
      go_simp; with_reducible rfl
     rotate_left
     ·simp only [Act.put, List.setIfInBounds_toArray, List.set_cons_zero, List.set_cons_succ, i64_w, i32_w]
      rfl
     refine pure_ (i := 13) (N := some 25) (v := ?_) (a' := ?_) #[true, true, true, true, true, true, true, true, true, true, true, true, true, true, false, false] rfl rfl (any_of HT_.out (by kernel_rfl)) (fun _ _ _ h => h) (Or.inl ⟨by rfl, ?_⟩) ?_ ?_
     rotate_left
     ·intro w'
      go_simp; with_reducible rfl
     rotate_left
     ·simp only [Act.put, List.setIfInBounds_toArray, List.set_cons_zero, List.set_cons_succ, i64_w, i32_w]
      rfl
     refine pure_ (i := 14) (N := some 26) (v := ?_) (a' := ?_) #[true, true, true, true, true, true, true, true, true, true, true, true, true, true, true, false] rfl rfl (any_of HT_.out (by kernel_rfl)) (fun _ _ _ h => h) (Or.inl ⟨by rfl, ?_⟩) ?_ ?_
     rotate_left
     ·intro w'
      go_simp; with_reducible rfl
     rotate_left
     ·simp only [Act.put, List.setIfInBounds_toArray, List.set_cons_zero, List.set_cons_succ, i64_w, i32_w]
      rfl
     refine one_ (i := 15) (N := none) #[true, true, true, true, true, true, true, true, true, true, true, true, true, true, true, true] rfl rfl (one_of HT_.out (by kernel_rfl)) (by decide) (fun K hK => ?_)
     have hs20 : w19.cell? ⟨gb270, 0, none⟩ = some (.int .u64 0) := (blk_cell BK270.out 0).trans rfl
     have hfs20 := blk_frozen BK270.out 0
     have hns20_0 := NB269_270.out
     have hms20_0 := NB270_269.out
     have hs21 : w19.cell? ⟨gb270, 1, none⟩ = some (.int .u64 0) := (blk_cell BK270.out 1).trans rfl
     have hfs21 := blk_frozen BK270.out 1
     have hns21_0 := NB269_270.out
     have hms21_0 := NB270_269.out
     refine skip_ (w1 := ?_) (by rfl) rfl ?_ ?_
     rotate_left
     ·go_simp
      rfl
     refine hK.out _ _ ⟨((cell_far (p := ⟨gb270, _, none⟩) NB269_270.out _).trans (((cell_far (p := ⟨gb270, _, none⟩) NB269_270.out _).trans (hHeld.1)))), ((cell_far (p := ⟨gb270, _, none⟩) NB269_270.out _).trans (((cell_far (p := ⟨gb270, _, none⟩) NB269_270.out _).trans (hHeld.2))))⟩ (fun hHeld => ?_)
     clear hK K
     refine done_ (done_of HT_.out (by kernel_rfl)) ?_
     try go_wp2
     refine bodyPost_ret (results_cell_row rfl _ _ gb270 25 #[.int .u64 ji11, .int .u64 (Go.bits .or .u64 (ji13) (ji16))] (0, 0) _ rfl (by (with_reducible repeat (first | refine blk_drewN ?_ _ | refine blk_drew ?_ | refine blk_alloc ?_ _)); refine blk_put (cs := #[.int .u64 ji11, .int .u64 0]) ?_ 1 _ rfl; (with_reducible repeat (first | refine blk_drewN ?_ _ | refine blk_drew ?_ | refine blk_alloc ?_ _)); refine blk_put (cs := #[.int .u64 0, .int .u64 0]) ?_ 0 _ rfl; (with_reducible repeat (first | refine blk_drewN ?_ _ | refine blk_drew ?_ | refine blk_alloc ?_ _)); exact BK270.out) Try.underlying25 rfl (by kernel_rfl)) rfl ?_
     exact ⟨by first | rfl | (simp [errW_none, errW_some] <;> rfl) | (simp only [← hji11, ← hji13, ← hji14, ← hji16]; first | rfl | (simp [errW_none, errW_some] <;> rfl)) | (simp [*, errW_none, errW_some] <;> rfl), bA⟩
    ·rw [if_neg c15] at H
     exact absurd H (by simp)
   ·rw [if_neg c10] at H
    exact absurd H (by simp)
  ·rw [if_neg c9] at H
   have c9b0 : decide (a1 < 64) = false := decide_eq_false c9
   clear c9
   by_cases c22 : a1 < 128
   ·rw [if_pos c22] at H
    have c22b0 : decide (a1 < 128) = true := decide_eq_true c22
    clear c22
    obtain ⟨ji23, hji23⟩ : ∃ j_ : Int, (wrap64 (a1 - 64)) = j_ := ⟨_, rfl⟩
    replace H : (if 0 ≤ (ji23) then (some (0, shr .u64 a0_0 (ji23))) else (none)) = some (r1, r2) := by first | (rw [hji23] at H; exact H) | (simp only [hji23] at H ⊢; exact H)
    have hji23w : (IntKind.i64.wrap (a1 - 64)) = ji23 := (i64_w _).trans hji23
    by_cases c24 : 0 ≤ (ji23)
    ·rw [if_pos c24] at H
     have c24b0 := eq_true c24
     have c24b1 : decide (0 ≤ (ji23)) = true := decide_eq_true c24
     clear c24
     obtain ⟨ji25, hji25⟩ : ∃ j_ : Int, (shr .u64 a0_0 (ji23)) = j_ := ⟨_, rfl⟩
     replace H : (some (0, ji25)) = some (r1, r2) := by first | (rw [hji25] at H; exact H) | (simp only [hji25] at H ⊢; exact H)
     have hji25_ : (a0_0 / 2 ^ min (ji23).toNat 64) = ji25 := hji25
     have hji25z : (ji23) ≤ 64 → (a0_0 / 2 ^ (ji23).toNat) = ji25 := shr_small hji25
     simp only [Option.some.injEq, Prod.mk.injEq] at H
     obtain ⟨rfl, rfl⟩ := H
     go_enter Try.func20, Try.ntmps20
     go_wp2_with (first | ((with_reducible refine gate_dst (N := 2) rfl ?_); refine bxA 2 #[.int .u64 a0_0, .int .u64 a0_1] 25 ?_; intro gb269 hg w26 hbox hb; have n0_ := Aside0.mk (below_step bA hb); have n1_ := Aside0.mk (hbox); have n2_ := Aside0.mk ((by rw [hg]; exact (below_size bA) : w.heap.size ≤ gb269)); have n3_ := Aside0.mk ((by rw [hg]; exact (below_size bA) : w.heap.size ≤ gb269)); clear HB; have HB := n0_; have BK269 := n1_; have GW269 := n2_; have GE269 := n3_; clear n0_ n1_ n2_ n3_ hb hbox hg) | ((with_reducible refine gate_dst (N := 4) rfl ?_); refine bxA 4 #[.int .u64 0, .int .u64 0] 25 ?_; intro gb270 hg w27 hbox hb; have n0_ := Aside0.mk (blk_below (g := gb269) (o := .cells #[.int .u64 a0_0, .int .u64 a0_1] 25 (0, 0)) kA hb); have n1_ := Aside0.mk (below_step bA hb); have n2_ := Aside0.mk (hbox); have n3_ := Aside0.mk ((by rw [hg]; exact (below_size bA) : w.heap.size ≤ gb270)); have n4_ := Aside0.mk ((by rw [hg]; exact (below_size bA) : w.heap.size ≤ gb270)); have n5_ := Aside0.mk ((by rw [hg]; exact Nat.ne_of_lt (blk_lt (g := gb269) (o := .cells #[.int .u64 a0_0, .int .u64 a0_1] 25 (0, 0)) kA) : gb269 ≠ gb270)); have n6_ := Aside0.mk ((by rw [hg]; exact Nat.ne_of_gt (blk_lt (g := gb269) (o := .cells #[.int .u64 a0_0, .int .u64 a0_1] 25 (0, 0)) kA) : gb270 ≠ gb269)); clear BK269 HB; have BK269 := n0_; have HB := n1_; have BK270 := n2_; have GW270 := n3_; have GE270 := n4_; have NB269_270 := n5_; have NB270_269 := n6_; clear n0_ n1_ n2_ n3_ n4_ n5_ n6_ hb hbox hg; have hnb28 := NB269_270.out; have hnc28 := NB270_269.out; have hcz29_0 : w27.cell? ⟨gb269, 0, none⟩ = some (.int .u64 a0_0) := (blk_cell BK269.out 0).trans rfl; have hcz29_1 : w27.cell? ⟨gb269, 1, none⟩ = some (.int .u64 a0_1) := (blk_cell BK269.out 1).trans rfl; have hfz29_0 := blk_frozen BK269.out 0; have hfz29_1 := blk_frozen BK269.out 1; have hcz30_0 : w27.cell? ⟨gb270, 0, none⟩ = some (.int .u64 0) := (blk_cell BK270.out 0).trans rfl; have hcz30_1 : w27.cell? ⟨gb270, 1, none⟩ = some (.int .u64 0) := (blk_cell BK270.out 1).trans rfl; have hfz30_0 := blk_frozen BK270.out 0; have hfz30_1 := blk_frozen BK270.out 1))
     refine bodyPost_ret (results_cell_row rfl _ _ gb270 25 #[.int .u64 0, .int .u64 ji25] (0, 0) _ rfl (by (with_reducible repeat (first | refine blk_drewN ?_ _ | refine blk_drew ?_ | refine blk_alloc ?_ _)); refine blk_put (cs := #[.int .u64 0, .int .u64 0]) ?_ 1 _ rfl; (with_reducible repeat (first | refine blk_drewN ?_ _ | refine blk_drew ?_ | refine blk_alloc ?_ _)); refine blk_put (cs := #[.int .u64 0, .int .u64 0]) ?_ 0 _ rfl; (with_reducible repeat (first | refine blk_drewN ?_ _ | refine blk_drew ?_ | refine blk_alloc ?_ _)); exact BK270.out) Try.underlying25 rfl (by kernel_rfl)) rfl ?_
     exact ⟨by first | rfl | (simp [errW_none, errW_some] <;> rfl) | (simp only [← hji23, ← hji25]; first | rfl | (simp [errW_none, errW_some] <;> rfl)) | (simp [*, errW_none, errW_some] <;> rfl), bA⟩
    ·rw [if_neg c24] at H
     exact absurd H (by simp)
   ·rw [if_neg c22] at H
    have c22b0 : decide (a1 < 128) = false := decide_eq_false c22
    clear c22
    simp only [Option.some.injEq, Prod.mk.injEq] at H
    obtain ⟨rfl, rfl⟩ := H
    go_enter Try.func20, Try.ntmps20
    go_wp2_with (first | ((with_reducible refine gate_dst (N := 2) rfl ?_); refine bxA 2 #[.int .u64 a0_0, .int .u64 a0_1] 25 ?_; intro gb269 hg w31 hbox hb; have n0_ := Aside0.mk (below_step bA hb); have n1_ := Aside0.mk (hbox); have n2_ := Aside0.mk ((by rw [hg]; exact (below_size bA) : w.heap.size ≤ gb269)); have n3_ := Aside0.mk ((by rw [hg]; exact (below_size bA) : w.heap.size ≤ gb269)); clear HB; have HB := n0_; have BK269 := n1_; have GW269 := n2_; have GE269 := n3_; clear n0_ n1_ n2_ n3_ hb hbox hg) | ((with_reducible refine gate_dst (N := 4) rfl ?_); refine bxA 4 #[.int .u64 0, .int .u64 0] 25 ?_; intro gb270 hg w32 hbox hb; have n0_ := Aside0.mk (blk_below (g := gb269) (o := .cells #[.int .u64 a0_0, .int .u64 a0_1] 25 (0, 0)) kA hb); have n1_ := Aside0.mk (below_step bA hb); have n2_ := Aside0.mk (hbox); have n3_ := Aside0.mk ((by rw [hg]; exact (below_size bA) : w.heap.size ≤ gb270)); have n4_ := Aside0.mk ((by rw [hg]; exact (below_size bA) : w.heap.size ≤ gb270)); have n5_ := Aside0.mk ((by rw [hg]; exact Nat.ne_of_lt (blk_lt (g := gb269) (o := .cells #[.int .u64 a0_0, .int .u64 a0_1] 25 (0, 0)) kA) : gb269 ≠ gb270)); have n6_ := Aside0.mk ((by rw [hg]; exact Nat.ne_of_gt (blk_lt (g := gb269) (o := .cells #[.int .u64 a0_0, .int .u64 a0_1] 25 (0, 0)) kA) : gb270 ≠ gb269)); clear BK269 HB; have BK269 := n0_; have HB := n1_; have BK270 := n2_; have GW270 := n3_; have GE270 := n4_; have NB269_270 := n5_; have NB270_269 := n6_; clear n0_ n1_ n2_ n3_ n4_ n5_ n6_ hb hbox hg; have hnb33 := NB270_269.out; have hnc33 := NB269_270.out; have hcz34_0 : w32.cell? ⟨gb270, 0, none⟩ = some (.int .u64 0) := (blk_cell BK270.out 0).trans rfl; have hcz34_1 : w32.cell? ⟨gb270, 1, none⟩ = some (.int .u64 0) := (blk_cell BK270.out 1).trans rfl; have hfz34_0 := blk_frozen BK270.out 0; have hfz34_1 := blk_frozen BK270.out 1))
    refine bodyPost_ret (results_cell_row rfl _ _ gb270 25 #[.int .u64 0, .int .u64 0] (0, 0) _ rfl (by (with_reducible repeat (first | refine blk_drewN ?_ _ | refine blk_drew ?_ | refine blk_alloc ?_ _)); refine blk_put (cs := #[.int .u64 0, .int .u64 0]) ?_ 1 _ rfl; (with_reducible repeat (first | refine blk_drewN ?_ _ | refine blk_drew ?_ | refine blk_alloc ?_ _)); refine blk_put (cs := #[.int .u64 0, .int .u64 0]) ?_ 0 _ rfl; (with_reducible repeat (first | refine blk_drewN ?_ _ | refine blk_drew ?_ | refine blk_alloc ?_ _)); exact BK270.out) Try.underlying25 rfl (by kernel_rfl)) rfl ?_
    exact ⟨by first | rfl | (simp [errW_none, errW_some] <;> rfl) | (simp [*, errW_none, errW_some] <;> rfl), bA⟩

end Go.Proofs.Ytcolhngdhlamkaa.GW
