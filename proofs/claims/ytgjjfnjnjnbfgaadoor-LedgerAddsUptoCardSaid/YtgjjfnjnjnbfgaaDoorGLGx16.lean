-- Laid by a program of this session (wip/tools/pr.py): contracts and pure functions; Lean checks it.
import Derived.Test.YtgjjfnjnjnbfgaaDoorGLGx0
import Derived.Test.YtgjjfnjnjnbfgaaDoorGLGx11
namespace Go.Proofs.YtgjjfnjnjnbfgaaDoor.GLG
open Go.RowKit Go.Proofs.YtgjjfnjnjnbfgaaDoorW.PrintWords Go.Proofs.YtgjjfnjnjnbfgaaDoorW.PrintLast Go.Proofs.YtgjjfnjnjnbfgaaDoorW.PrintMore
attribute [local go_sem] max2_int min2_int max_two min_two max_three min_three max_four min_four   -- for this text's walks alone
set_option linter.unusedVariables false
set_option linter.unusedSimpArgs false

/-! ### backfillref01_Shl: function 102 -/
def backfillref01_Shl.f (a0_0 : Int) (a0_1 : Int) (a1 : Int) : Option (Int × Int) := if a1 < 1 then (some (a0_0, a0_1)) else (if a1 ≥ 128 then (some (0, 0)) else (if a1 ≥ 64 then (if 0 ≤ (wrap64 (a1 - 64)) then (some (shl .u64 a0_1 (wrap64 (a1 - 64)), 0)) else (none)) else (if 0 ≤ a1 then (if 0 ≤ (wrap64 (64 - a1)) then (some (IntKind.u64.wrap ((shl .u64 a0_0 a1) + (shr .u64 a0_1 (wrap64 (64 - a1)))), shl .u64 a0_1 a1)) else (none)) else (none))))
def backfillref01_Shl.T7 : Bool × List (List Nat × List Nat) := (true, [([], []), ([0], [0]), ([], []), ([1, 2], [1, 2]), ([], []), ([4], [4]), ([], []), ([6], [6]), ([5, 7], [5, 7]), ([3, 8], [3, 8]), ([], []), ([10], [10]), ([], []), ([11, 12], [11, 12]), ([9, 13], [9, 13]), ([14, 0, 1, 2, 3, 4, 5, 6, 7, 8, 9, 10, 11, 12, 13, 14], [14])])
def backfillref01_Shl.B7 : List Nat := [0, 1, 0, 7, 0, 16, 0, 64, 240, 511, 0, 1024, 0, 7168, 16383, 32767]
theorem backfillref01_Shl.tab7 : rtab .any (opsOf Tryd.f102 7) = backfillref01_Shl.T7 := by kernel_rfl
theorem backfillref01_Shl.bits7 : waitsOk backfillref01_Shl.T7.2 backfillref01_Shl.B7 = true := by kernel_rfl
set_option maxHeartbeats 8000000 in
set_option maxRecDepth 100000 in
theorem backfillref01_Shl.calls (a0_0 : Int) (a0_1 : Int) (a1 : Int) (r1 : Int) (r2 : Int) (w : World) (h : backfillref01_Shl.f a0_0 a0_1 a1 = some (r1, r2)) :
  Calls Tryd.prog 102 #[.agg #[.int .u64 a0_0, .int .u64 a0_1], .int .i64 a1] w fun e w' => e = .returned (.agg #[.int .u64 r1, .int .u64 r2]) ∧ Below w.heap.size w w' := by
 have hu94 := Tryd.underlying94
 have HB := Aside0.mk (Below.refl w.heap.size w)
 have H : (if a1 < 1 then (some (a0_0, a0_1)) else (if a1 ≥ 128 then (some (0, 0)) else (if a1 ≥ 64 then (if 0 ≤ (wrap64 (a1 - 64)) then (some (shl .u64 a0_1 (wrap64 (a1 - 64)), 0)) else (none)) else (if 0 ≤ a1 then (if 0 ≤ (wrap64 (64 - a1)) then (some (IntKind.u64.wrap ((shl .u64 a0_0 a1) + (shr .u64 a0_1 (wrap64 (64 - a1)))), shl .u64 a0_1 a1)) else (none)) else (none))))) = some (r1, r2) := h
 clear h
 by_cases c3 : a1 < 1
 ·rw [if_pos c3] at H
  have c3b0 : decide (a1 < 1) = true := decide_eq_true c3
  clear c3
  simp only [Option.some.injEq, Prod.mk.injEq] at H
  obtain ⟨rfl, rfl⟩ := H
  go_enter Tryd.func102, Tryd.ntmps102
  go_wp2_with (first | ((with_reducible refine gate_dst (N := 2) rfl ?_); refine bxA 2 #[.int .u64 a0_0, .int .u64 a0_1] 94 ?_; intro gb381 hg w4 hbox hb; have n0_ := Aside0.mk (below_step bA hb); have n1_ := Aside0.mk (hbox); have n2_ := Aside0.mk (gwA hg bA); have n3_ := Aside0.mk (gwA hg bA); clear HB; have HB := n0_; have BK381 := n1_; have GW381 := n2_; have GE381 := n3_; clear n0_ n1_ n2_ n3_ hb hbox hg) | ((with_reducible refine gate_dst (N := 4) rfl ?_); refine bxA 4 #[.int .u64 0, .int .u64 0] 94 ?_; intro gb382 hg w5 hbox hb; have n0_ := Aside0.mk (blk_below (g := gb381) kA hb); have n1_ := Aside0.mk (below_step bA hb); have n2_ := Aside0.mk (hbox); have n3_ := Aside0.mk (gwA hg bA); have n4_ := Aside0.mk (gwA hg bA); have n5_ := Aside0.mk (neA (g := gb381) hg kA); have n6_ := Aside0.mk (neB (g := gb381) hg kA); clear BK381 HB; have BK381 := n0_; have HB := n1_; have BK382 := n2_; have GW382 := n3_; have GE382 := n4_; have NB381_382 := n5_; have NB382_381 := n6_; clear n0_ n1_ n2_ n3_ n4_ n5_ n6_ hb hbox hg; have hnb6 := NB381_382.out; have hnc6 := NB382_381.out; have hcz7_0 : w5.cell? ⟨gb381, 0, none⟩ = some (.int .u64 a0_0) := (blk_cell BK381.out 0).trans rfl; have hcz7_1 : w5.cell? ⟨gb381, 1, none⟩ = some (.int .u64 a0_1) := (blk_cell BK381.out 1).trans rfl; have hfz7_0 := blk_frozen BK381.out 0; have hfz7_1 := blk_frozen BK381.out 1; have hcz8_0 : w5.cell? ⟨gb382, 0, none⟩ = some (.int .u64 0) := (blk_cell BK382.out 0).trans rfl; have hcz8_1 : w5.cell? ⟨gb382, 1, none⟩ = some (.int .u64 0) := (blk_cell BK382.out 1).trans rfl; have hfz8_0 := blk_frozen BK382.out 0; have hfz8_1 := blk_frozen BK382.out 1))
  refine bodyPost_ret (results_cell_row rfl _ _ gb382 94 #[.int .u64 a0_0, .int .u64 a0_1] (0, 0) _ rfl (by (with_reducible repeat (first | refine blk_drewN ?_ _ | refine blk_drew ?_ | refine blk_alloc ?_ _)); refine blk_put (cs := #[.int .u64 a0_0, .int .u64 0]) ?_ 1 _ rfl; (with_reducible repeat (first | refine blk_drewN ?_ _ | refine blk_drew ?_ | refine blk_alloc ?_ _)); refine blk_put (cs := #[.int .u64 0, .int .u64 0]) ?_ 0 _ rfl; exact kA) Tryd.underlying94 rfl (by kernel_rfl)) rfl ?_
  exact ⟨by first | rfl | (simp [errW_none, errW_some] <;> rfl) | (simp [*, errW_none, errW_some] <;> rfl), bA⟩
 ·rw [if_neg c3] at H
  have c3b0 : decide (a1 < 1) = false := decide_eq_false c3
  clear c3
  by_cases c9 : a1 ≥ 128
  ·rw [if_pos c9] at H
   have c9b0 : decide (128 ≤ a1) = true := decide_eq_true c9
   clear c9
   simp only [Option.some.injEq, Prod.mk.injEq] at H
   obtain ⟨rfl, rfl⟩ := H
   go_enter Tryd.func102, Tryd.ntmps102
   go_wp2_with (first | ((with_reducible refine gate_dst (N := 2) rfl ?_); refine bxA 2 #[.int .u64 a0_0, .int .u64 a0_1] 94 ?_; intro gb381 hg w10 hbox hb; have n0_ := Aside0.mk (below_step bA hb); have n1_ := Aside0.mk (hbox); have n2_ := Aside0.mk (gwA hg bA); have n3_ := Aside0.mk (gwA hg bA); clear HB; have HB := n0_; have BK381 := n1_; have GW381 := n2_; have GE381 := n3_; clear n0_ n1_ n2_ n3_ hb hbox hg) | ((with_reducible refine gate_dst (N := 4) rfl ?_); refine bxA 4 #[.int .u64 0, .int .u64 0] 94 ?_; intro gb382 hg w11 hbox hb; have n0_ := Aside0.mk (blk_below (g := gb381) kA hb); have n1_ := Aside0.mk (below_step bA hb); have n2_ := Aside0.mk (hbox); have n3_ := Aside0.mk (gwA hg bA); have n4_ := Aside0.mk (gwA hg bA); have n5_ := Aside0.mk (neA (g := gb381) hg kA); have n6_ := Aside0.mk (neB (g := gb381) hg kA); clear BK381 HB; have BK381 := n0_; have HB := n1_; have BK382 := n2_; have GW382 := n3_; have GE382 := n4_; have NB381_382 := n5_; have NB382_381 := n6_; clear n0_ n1_ n2_ n3_ n4_ n5_ n6_ hb hbox hg; have hnb12 := NB382_381.out; have hnc12 := NB381_382.out; have hcz13_0 : w11.cell? ⟨gb382, 0, none⟩ = some (.int .u64 0) := (blk_cell BK382.out 0).trans rfl; have hcz13_1 : w11.cell? ⟨gb382, 1, none⟩ = some (.int .u64 0) := (blk_cell BK382.out 1).trans rfl; have hfz13_0 := blk_frozen BK382.out 0; have hfz13_1 := blk_frozen BK382.out 1))
   refine bodyPost_ret (results_cell_row rfl _ _ gb382 94 #[.int .u64 0, .int .u64 0] (0, 0) _ rfl (by (with_reducible repeat (first | refine blk_drewN ?_ _ | refine blk_drew ?_ | refine blk_alloc ?_ _)); refine blk_put (cs := #[.int .u64 0, .int .u64 0]) ?_ 1 _ rfl; (with_reducible repeat (first | refine blk_drewN ?_ _ | refine blk_drew ?_ | refine blk_alloc ?_ _)); refine blk_put (cs := #[.int .u64 0, .int .u64 0]) ?_ 0 _ rfl; exact kA) Tryd.underlying94 rfl (by kernel_rfl)) rfl ?_
   exact ⟨by first | rfl | (simp [errW_none, errW_some] <;> rfl) | (simp [*, errW_none, errW_some] <;> rfl), bA⟩
  ·rw [if_neg c9] at H
   have c9b0 : decide (128 ≤ a1) = false := decide_eq_false c9
   clear c9
   by_cases c14 : a1 ≥ 64
   ·rw [if_pos c14] at H
    have c14b0 : decide (64 ≤ a1) = true := decide_eq_true c14
    clear c14
    obtain ⟨ji15, hji15⟩ : ∃ j_ : Int, (wrap64 (a1 - 64)) = j_ := ⟨_, rfl⟩
    replace H : (if 0 ≤ (ji15) then (some (shl .u64 a0_1 (ji15), 0)) else (none)) = some (r1, r2) := by first | (rw [hji15] at H; exact H) | (simp only [hji15] at H ⊢; exact H)
    have hji15w : (IntKind.i64.wrap (a1 - 64)) = ji15 := (i64_w _).trans hji15
    by_cases c16 : 0 ≤ (ji15)
    ·rw [if_pos c16] at H
     have c16b0 := eq_true c16
     have c16b1 : decide (0 ≤ (ji15)) = true := decide_eq_true c16
     clear c16
     obtain ⟨ji17, hji17⟩ : ∃ j_ : Int, (shl .u64 a0_1 (ji15)) = j_ := ⟨_, rfl⟩
     replace H : (some (ji17, 0)) = some (r1, r2) := by first | (rw [hji17] at H; exact H) | (simp only [hji17] at H ⊢; exact H)
     have hji17_ : (IntKind.u64.wrap (a0_1 * 2 ^ min (ji15).toNat 64)) = ji17 := hji17
     have hji17z : (ji15) ≤ 64 → (IntKind.u64.wrap (a0_1 * 2 ^ (ji15).toNat)) = ji17 := shl_small hji17
     simp only [Option.some.injEq, Prod.mk.injEq] at H
     obtain ⟨rfl, rfl⟩ := H
     go_enter Tryd.func102, Tryd.ntmps102
     go_wp2_with (first | ((with_reducible refine gate_dst (N := 2) rfl ?_); refine bxA 2 #[.int .u64 a0_0, .int .u64 a0_1] 94 ?_; intro gb381 hg w18 hbox hb; have n0_ := Aside0.mk (below_step bA hb); have n1_ := Aside0.mk (hbox); have n2_ := Aside0.mk (gwA hg bA); have n3_ := Aside0.mk (gwA hg bA); clear HB; have HB := n0_; have BK381 := n1_; have GW381 := n2_; have GE381 := n3_; clear n0_ n1_ n2_ n3_ hb hbox hg) | ((with_reducible refine gate_dst (N := 4) rfl ?_); refine bxA 4 #[.int .u64 0, .int .u64 0] 94 ?_; intro gb382 hg w19 hbox hb; have n0_ := Aside0.mk (blk_below (g := gb381) kA hb); have n1_ := Aside0.mk (below_step bA hb); have n2_ := Aside0.mk (hbox); have n3_ := Aside0.mk (gwA hg bA); have n4_ := Aside0.mk (gwA hg bA); have n5_ := Aside0.mk (neA (g := gb381) hg kA); have n6_ := Aside0.mk (neB (g := gb381) hg kA); clear BK381 HB; have BK381 := n0_; have HB := n1_; have BK382 := n2_; have GW382 := n3_; have GE382 := n4_; have NB381_382 := n5_; have NB382_381 := n6_; clear n0_ n1_ n2_ n3_ n4_ n5_ n6_ hb hbox hg; have hnb20 := NB381_382.out; have hnc20 := NB382_381.out; have hcz21_0 : w19.cell? ⟨gb381, 0, none⟩ = some (.int .u64 a0_0) := (blk_cell BK381.out 0).trans rfl; have hcz21_1 : w19.cell? ⟨gb381, 1, none⟩ = some (.int .u64 a0_1) := (blk_cell BK381.out 1).trans rfl; have hfz21_0 := blk_frozen BK381.out 0; have hfz21_1 := blk_frozen BK381.out 1; have hcz22_0 : w19.cell? ⟨gb382, 0, none⟩ = some (.int .u64 0) := (blk_cell BK382.out 0).trans rfl; have hcz22_1 : w19.cell? ⟨gb382, 1, none⟩ = some (.int .u64 0) := (blk_cell BK382.out 1).trans rfl; have hfz22_0 := blk_frozen BK382.out 0; have hfz22_1 := blk_frozen BK382.out 1))
     refine bodyPost_ret (results_cell_row rfl _ _ gb382 94 #[.int .u64 ji17, .int .u64 0] (0, 0) _ rfl (by (with_reducible repeat (first | refine blk_drewN ?_ _ | refine blk_drew ?_ | refine blk_alloc ?_ _)); refine blk_put (cs := #[.int .u64 ji17, .int .u64 0]) ?_ 1 _ rfl; (with_reducible repeat (first | refine blk_drewN ?_ _ | refine blk_drew ?_ | refine blk_alloc ?_ _)); refine blk_put (cs := #[.int .u64 0, .int .u64 0]) ?_ 0 _ rfl; exact kA) Tryd.underlying94 rfl (by kernel_rfl)) rfl ?_
     exact ⟨by first | rfl | (simp [errW_none, errW_some] <;> rfl) | (simp only [← hji15, ← hji17]; first | rfl | (simp [errW_none, errW_some] <;> rfl)) | (simp [*, errW_none, errW_some] <;> rfl), bA⟩
    ·rw [if_neg c16] at H
     exact absurd H (by simp)
   ·rw [if_neg c14] at H
    have c14b0 : decide (64 ≤ a1) = false := decide_eq_false c14
    clear c14
    by_cases c23 : 0 ≤ a1
    ·rw [if_pos c23] at H
     have c23b0 := eq_true c23
     have c23b1 : decide (0 ≤ a1) = true := decide_eq_true c23
     clear c23
     obtain ⟨ji24, hji24⟩ : ∃ j_ : Int, (shl .u64 a0_0 a1) = j_ := ⟨_, rfl⟩
     replace H : (if 0 ≤ (wrap64 (64 - a1)) then (some (IntKind.u64.wrap ((ji24) + (shr .u64 a0_1 (wrap64 (64 - a1)))), shl .u64 a0_1 a1)) else (none)) = some (r1, r2) := by first | (rw [hji24] at H; exact H) | (simp only [hji24] at H ⊢; exact H)
     have hji24_ : (IntKind.u64.wrap (a0_0 * 2 ^ min a1.toNat 64)) = ji24 := hji24
     have hji24z : a1 ≤ 64 → (IntKind.u64.wrap (a0_0 * 2 ^ a1.toNat)) = ji24 := shl_small hji24
     obtain ⟨ji25, hji25⟩ : ∃ j_ : Int, (wrap64 (64 - a1)) = j_ := ⟨_, rfl⟩
     replace H : (if 0 ≤ (ji25) then (some (IntKind.u64.wrap ((ji24) + (shr .u64 a0_1 (ji25))), shl .u64 a0_1 a1)) else (none)) = some (r1, r2) := by first | (rw [hji25] at H; exact H) | (simp only [hji25] at H ⊢; exact H)
     have hji25w : (IntKind.i64.wrap (64 - a1)) = ji25 := (i64_w _).trans hji25
     by_cases c26 : 0 ≤ (ji25)
     ·rw [if_pos c26] at H
      have c26b0 := eq_true c26
      have c26b1 : decide (0 ≤ (ji25)) = true := decide_eq_true c26
      clear c26
      obtain ⟨ji27, hji27⟩ : ∃ j_ : Int, (shr .u64 a0_1 (ji25)) = j_ := ⟨_, rfl⟩
      replace H : (some (IntKind.u64.wrap ((ji24) + (ji27)), shl .u64 a0_1 a1)) = some (r1, r2) := by first | (rw [hji27] at H; exact H) | (simp only [hji27] at H ⊢; exact H)
      have hji27_ : (a0_1 / 2 ^ min (ji25).toNat 64) = ji27 := hji27
      have hji27z : (ji25) ≤ 64 → (a0_1 / 2 ^ (ji25).toNat) = ji27 := shr_small hji27
      have c28b0 := eq_true (of_decide_eq_true (by first | (with_reducible assumption) | assumption) : 0 ≤ a1)
      obtain ⟨ji29, hji29⟩ : ∃ j_ : Int, (shl .u64 a0_1 a1) = j_ := ⟨_, rfl⟩
      replace H : (some (IntKind.u64.wrap ((ji24) + (ji27)), ji29)) = some (r1, r2) := by first | (rw [hji29] at H; exact H) | (simp only [hji29] at H ⊢; exact H)
      have hji29_ : (IntKind.u64.wrap (a0_1 * 2 ^ min a1.toNat 64)) = ji29 := hji29
      have hji29z : a1 ≤ 64 → (IntKind.u64.wrap (a0_1 * 2 ^ a1.toNat)) = ji29 := shl_small hji29
      simp only [Option.some.injEq, Prod.mk.injEq] at H
      obtain ⟨rfl, rfl⟩ := H
      go_enter Tryd.func102, Tryd.ntmps102
      try go_wp2_with (first | ((with_reducible refine gate_dst (N := 2) rfl ?_); refine bxA 2 #[.int .u64 a0_0, .int .u64 a0_1] 94 ?_; intro gb381 hg w30 hbox hb; have n0_ := Aside0.mk (below_step bA hb); have n1_ := Aside0.mk (hbox); have n2_ := Aside0.mk (gwA hg bA); have n3_ := Aside0.mk (gwA hg bA); clear HB; have HB := n0_; have BK381 := n1_; have GW381 := n2_; have GE381 := n3_; clear n0_ n1_ n2_ n3_ hb hbox hg) | ((with_reducible refine gate_dst (N := 4) rfl ?_); refine bxA 4 #[.int .u64 0, .int .u64 0] 94 ?_; intro gb382 hg w31 hbox hb; have n0_ := Aside0.mk (blk_below (g := gb381) kA hb); have n1_ := Aside0.mk (below_step bA hb); have n2_ := Aside0.mk (hbox); have n3_ := Aside0.mk (gwA hg bA); have n4_ := Aside0.mk (gwA hg bA); have n5_ := Aside0.mk (neA (g := gb381) hg kA); have n6_ := Aside0.mk (neB (g := gb381) hg kA); clear BK381 HB; have BK381 := n0_; have HB := n1_; have BK382 := n2_; have GW382 := n3_; have GE382 := n4_; have NB381_382 := n5_; have NB382_381 := n6_; clear n0_ n1_ n2_ n3_ n4_ n5_ n6_ hb hbox hg))
      have n0_ := Aside0.mk (blk_drew BK381.out); have n1_ := Aside0.mk (blk_drew BK382.out); have n2_ := Aside0.mk (below_drew1 HB.out); clear BK381 BK382 HB; have BK381 := n0_; have BK382 := n1_; have HB := n2_; clear n0_ n1_ n2_
      refine start_ (n := 16) (S := fun w' => w'.cell? ⟨gb381, 0, none⟩ = some (.int .u64 a0_0) ∧ w'.cell? ⟨gb381, 1, none⟩ = some (.int .u64 a0_1)) (ds := []) #[false, false, false, false, false, false, false, false, false, false, false, false, false, false, false, false] (by kernel_rfl) rfl rfl ⟨(blk_cell BK381.out 0).trans rfl, (blk_cell BK381.out 1).trans rfl⟩ (fun hHeld => ?_); refine with_tabW backfillref01_Shl.tab7 backfillref01_Shl.bits7 (fun HT_ HW_ => ?_)
      generalize w31.drew = w32 at BK381 BK382 HB hHeld ⊢
      refine pure_ (i := 0) (N := some 19) (v := ?_) (a' := ?_) #[true, false, false, false, false, false, false, false, false, false, false, false, false, false, false, false] rfl rfl (any_of HT_.out (by kernel_rfl)) (fun _ _ _ h => h) (Or.inl ⟨by rfl, ?_⟩) ?_ ?_
      rotate_left
      ·intro w'
       go_simp; with_reducible rfl
      rotate_left
      ·simp only [Act.put, List.setIfInBounds_toArray, List.set_cons_zero, List.set_cons_succ, i64_w, i32_w]
       rfl
      refine pure_ (i := 2) (N := some 21) (v := ?_) (a' := ?_) #[true, false, true, false, false, false, false, false, false, false, false, false, false, false, false, false] rfl rfl (any_of HT_.out (by kernel_rfl)) (fun _ _ _ h => h) (Or.inl ⟨by rfl, ?_⟩) ?_ ?_
      rotate_left
      ·intro w'
       go_simp; with_reducible rfl
      rotate_left
      ·simp only [Act.put, List.setIfInBounds_toArray, List.set_cons_zero, List.set_cons_succ, i64_w, i32_w]
       rfl
      refine pure_ (i := 4) (N := some 23) (v := ?_) (a' := ?_) #[true, false, true, false, true, false, false, false, false, false, false, false, false, false, false, false] rfl rfl (any_of HT_.out (by kernel_rfl)) (fun _ _ _ h => h) (Or.inl ⟨by rfl, ?_⟩) ?_ ?_
      rotate_left
      ·intro w'
       go_simp; with_reducible rfl
      rotate_left
      ·simp only [Act.put, List.setIfInBounds_toArray, List.set_cons_zero, List.set_cons_succ, i64_w, i32_w]
       rfl
      refine pure_ (i := 6) (N := some 25) (v := ?_) (a' := ?_) #[true, false, true, false, true, false, true, false, false, false, false, false, false, false, false, false] rfl rfl (any_of HT_.out (by kernel_rfl)) (fun _ _ _ h => h) (Or.inl ⟨by rfl, ?_⟩) ?_ ?_
      rotate_left
      ·intro w'
       go_simp; with_reducible rfl
      rotate_left
      ·simp only [Act.put, List.setIfInBounds_toArray, List.set_cons_zero, List.set_cons_succ, i64_w, i32_w]
       rfl
      refine pure_ (i := 7) (N := some 26) (v := ?_) (a' := ?_) #[true, false, true, false, true, false, true, true, false, false, false, false, false, false, false, false] rfl rfl (any_of HT_.out (by kernel_rfl)) (fun _ _ _ h => h) (Or.inl ⟨by rfl, ?_⟩) ?_ ?_
      rotate_left
      ·intro w'
       go_simp; with_reducible rfl
      rotate_left
      ·simp only [Act.put, List.setIfInBounds_toArray, List.set_cons_zero, List.set_cons_succ, i64_w, i32_w]
       rfl
      refine pure_ (i := 10) (N := some 29) (v := ?_) (a' := ?_) #[true, false, true, false, true, false, true, true, false, false, true, false, false, false, false, false] rfl rfl (any_of HT_.out (by kernel_rfl)) (fun _ _ _ h => h) (Or.inl ⟨by rfl, ?_⟩) ?_ ?_
      rotate_left
      ·intro w'
       go_simp; with_reducible rfl
      rotate_left
      ·simp only [Act.put, List.setIfInBounds_toArray, List.set_cons_zero, List.set_cons_succ, i64_w, i32_w]
       rfl
      refine pure_ (i := 12) (N := some 31) (v := ?_) (a' := ?_) #[true, false, true, false, true, false, true, true, false, false, true, false, true, false, false, false] rfl rfl (any_of HT_.out (by kernel_rfl)) (fun _ _ _ h => h) (Or.inl ⟨by rfl, ?_⟩) ?_ ?_
      rotate_left
      ·intro w'
       go_simp; with_reducible rfl
      rotate_left
      ·simp only [Act.put, List.setIfInBounds_toArray, List.set_cons_zero, List.set_cons_succ, i64_w, i32_w]
       rfl
      refine take_ (i := 1) (N := some 20) (v := ?_) (a' := ?_) #[true, true, true, false, true, false, true, true, false, false, true, false, true, false, false, false] rfl rfl (take_ofW HT_.out HW_.out (by kernel_rfl)) (fun _ _ _ h => h) (Or.inl ⟨by rfl, ?_⟩) hHeld ?_ ?_
      rotate_left
      ·rintro w' ⟨s0, s1⟩
       go_simp; with_reducible rfl
      rotate_left
      ·simp only [Act.put, List.setIfInBounds_toArray, List.set_cons_zero, List.set_cons_succ, i64_w, i32_w]
       rfl
      refine pure_ (i := 3) (N := some 22) (v := ?_) (a' := ?_) #[true, true, true, true, true, false, true, true, false, false, true, false, true, false, false, false] rfl rfl (any_of HT_.out (by kernel_rfl)) (fun _ _ _ h => h) (Or.inl ⟨by rfl, ?_⟩) ?_ ?_
      rotate_left
      ·intro w'
       go_simp; with_reducible rfl
      rotate_left
      ·simp only [Act.put, List.setIfInBounds_toArray, List.set_cons_zero, List.set_cons_succ, i64_w, i32_w]
       rfl
      refine take_ (i := 5) (N := some 24) (v := ?_) (a' := ?_) #[true, true, true, true, true, true, true, true, false, false, true, false, true, false, false, false] rfl rfl (take_ofW HT_.out HW_.out (by kernel_rfl)) (fun _ _ _ h => h) (Or.inl ⟨by rfl, ?_⟩) hHeld ?_ ?_
      rotate_left
      ·rintro w' ⟨s0, s1⟩
       go_simp; with_reducible rfl
      rotate_left
      ·simp only [Act.put, List.setIfInBounds_toArray, List.set_cons_zero, List.set_cons_succ, i64_w, i32_w]
       rfl
      refine pure_ (i := 8) (N := some 27) (v := ?_) (a' := ?_) #[true, true, true, true, true, true, true, true, true, false, true, false, true, false, false, false] rfl rfl (any_of HT_.out (by kernel_rfl)) (fun _ _ _ h => h) (Or.inl ⟨by rfl, ?_⟩) ?_ ?_
      rotate_left
      ·intro w'
       go_simp; with_reducible rfl
      rotate_left
      ·simp only [Act.put, List.setIfInBounds_toArray, List.set_cons_zero, List.set_cons_succ, i64_w, i32_w]
       rfl
      refine pure_ (i := 9) (N := some 28) (v := ?_) (a' := ?_) #[true, true, true, true, true, true, true, true, true, true, true, false, true, false, false, false] rfl rfl (any_of HT_.out (by kernel_rfl)) (fun _ _ _ h => h) (Or.inl ⟨by rfl, ?_⟩) ?_ ?_
      rotate_left
      ·intro w'
       go_simp; with_reducible rfl
      rotate_left
      ·simp only [Act.put, List.setIfInBounds_toArray, List.set_cons_zero, List.set_cons_succ, i64_w, i32_w]
       rfl
      refine take_ (i := 11) (N := some 30) (v := ?_) (a' := ?_) #[true, true, true, true, true, true, true, true, true, true, true, true, true, false, false, false] rfl rfl (take_ofW HT_.out HW_.out (by kernel_rfl)) (fun _ _ _ h => h) (Or.inl ⟨by rfl, ?_⟩) hHeld ?_ ?_
      rotate_left
      ·rintro w' ⟨s0, s1⟩
       go_simp; with_reducible rfl
      rotate_left
      ·simp only [Act.put, List.setIfInBounds_toArray, List.set_cons_zero, List.set_cons_succ, i64_w, i32_w]
       rfl
      refine pure_ (i := 13) (N := some 32) (v := ?_) (a' := ?_) #[true, true, true, true, true, true, true, true, true, true, true, true, true, true, false, false] rfl rfl (any_of HT_.out (by kernel_rfl)) (fun _ _ _ h => h) (Or.inl ⟨by rfl, ?_⟩) ?_ ?_
      rotate_left
      ·intro w'
       go_simp; with_reducible rfl
      rotate_left
      ·simp only [Act.put, List.setIfInBounds_toArray, List.set_cons_zero, List.set_cons_succ, i64_w, i32_w]
       rfl
      refine pure_ (i := 14) (N := some 33) (v := ?_) (a' := ?_) #[true, true, true, true, true, true, true, true, true, true, true, true, true, true, true, false] rfl rfl (any_of HT_.out (by kernel_rfl)) (fun _ _ _ h => h) (Or.inl ⟨by rfl, ?_⟩) ?_ ?_
      rotate_left
      ·intro w'
       go_simp; with_reducible rfl
      rotate_left
      ·simp only [Act.put, List.setIfInBounds_toArray, List.set_cons_zero, List.set_cons_succ, i64_w, i32_w]
       rfl
      refine one_ (i := 15) (N := none) #[true, true, true, true, true, true, true, true, true, true, true, true, true, true, true, true] rfl rfl (one_of HT_.out (by kernel_rfl)) (by decide) (fun K hK => ?_)
      have hs33 : w32.cell? ⟨gb382, 0, none⟩ = some (.int .u64 0) := (blk_cell BK382.out 0).trans rfl
      have hfs33 := blk_frozen BK382.out 0
      have hns33_0 := NB381_382.out
      have hms33_0 := NB382_381.out
      have hs34 : w32.cell? ⟨gb382, 1, none⟩ = some (.int .u64 0) := (blk_cell BK382.out 1).trans rfl
      have hfs34 := blk_frozen BK382.out 1
      have hns34_0 := NB381_382.out
      have hms34_0 := NB382_381.out
      refine skip_ (w1 := ?_) (by rfl) rfl ?_ ?_
      rotate_left
      ·go_simp
       rfl
      refine hK.out _ _ ⟨((cell_far (p := ⟨gb382, _, none⟩) NB381_382.out _).trans (((cell_far (p := ⟨gb382, _, none⟩) NB381_382.out _).trans (hHeld.1)))), ((cell_far (p := ⟨gb382, _, none⟩) NB381_382.out _).trans (((cell_far (p := ⟨gb382, _, none⟩) NB381_382.out _).trans (hHeld.2))))⟩ (fun hHeld => ?_)
      clear hK K
      refine done_ (done_of HT_.out (by kernel_rfl)) ?_
      try go_wp2
      refine bodyPost_ret (results_cell_row rfl _ _ gb382 94 #[.int .u64 (IntKind.u64.wrap ((ji24) + (ji27))), .int .u64 ji29] (0, 0) _ rfl (by (with_reducible repeat (first | refine blk_drewN ?_ _ | refine blk_drew ?_ | refine blk_alloc ?_ _)); refine blk_put (cs := #[.int .u64 (IntKind.u64.wrap ((ji24) + (ji27))), .int .u64 0]) ?_ 1 _ rfl; (with_reducible repeat (first | refine blk_drewN ?_ _ | refine blk_drew ?_ | refine blk_alloc ?_ _)); refine blk_put (cs := #[.int .u64 0, .int .u64 0]) ?_ 0 _ rfl; exact kA) Tryd.underlying94 rfl (by kernel_rfl)) rfl ?_
      exact ⟨by first | rfl | (simp [errW_none, errW_some] <;> rfl) | (simp only [← hji24, ← hji25, ← hji27, ← hji29]; first | rfl | (simp [errW_none, errW_some] <;> rfl)) | (simp [*, errW_none, errW_some] <;> rfl), bA⟩
     ·rw [if_neg c26] at H
      exact absurd H (by simp)
    ·rw [if_neg c23] at H
     exact absurd H (by simp)

/-! ### backfillref01_Div: function 100 -/
def backfillref01_Div.l0 : Nat → Int → Int → Int → Int → Int → Int → Int → Option (Int × Int × Int × Bool)
 | 0, _, _, _, _, _, _, _ => none
 | k + 1, x1, x8, x9, x384000, x384001, x386000, x386001 => if x9 < 128 then ((backfillref01_Shl.f x384000 x384001 1).bind fun bt386 => ((backfillref01_Shl.f x386000 x386001 1).bind fun bt388 => (if (x8 / 9223372036854775808) = 1 then (backfillref01_Div.l0 k x1 (IntKind.u64.wrap ((IntKind.u64.wrap ((IntKind.u64.wrap (x8 * 2)) + (x384000 / 9223372036854775808))) - x1)) (wrap64 (x9 + 1)) bt386.1 bt386.2 bt388.1 (IntKind.u64.wrap (bt388.2 + 1))) else (if (IntKind.u64.wrap ((IntKind.u64.wrap (x8 * 2)) + (x384000 / 9223372036854775808))) ≥ x1 then (backfillref01_Div.l0 k x1 (IntKind.u64.wrap ((IntKind.u64.wrap ((IntKind.u64.wrap (x8 * 2)) + (x384000 / 9223372036854775808))) - x1)) (wrap64 (x9 + 1)) bt386.1 bt386.2 bt388.1 (IntKind.u64.wrap (bt388.2 + 1))) else (backfillref01_Div.l0 k x1 (IntKind.u64.wrap ((IntKind.u64.wrap (x8 * 2)) + (x384000 / 9223372036854775808))) (wrap64 (x9 + 1)) bt386.1 bt386.2 bt388.1 bt388.2))))) else (some (x386000, x386001, x8, true))
def backfillref01_Div.f (k : Nat) (a0_0 : Int) (a0_1 : Int) (a1 : Int) : Option (Int × Int × Int × Bool) := if a1 = 0 then (some (0, 0, 0, false)) else (backfillref01_Div.l0 k a1 0 0 a0_0 a0_1 0 0)
theorem backfillref01_Div.mono_l : ∀ k, (∀ y0 y1 y2 y3 y4 y5 y6, LeO (backfillref01_Div.l0 k y0 y1 y2 y3 y4 y5 y6) (backfillref01_Div.l0 (k + 1) y0 y1 y2 y3 y4 y5 y6))
 | 0 => fun _ _ _ _ _ _ _ r h => by simp [backfillref01_Div.l0] at h
 | k + 1 => by
  have ih0 := backfillref01_Div.mono_l k
  ·intro y0 y1 y2 y3 y4 y5 y6
   unfold backfillref01_Div.l0
   repeat' first
   | (with_reducible exact ih0 _ _ _ _ _ _ _)
   | (with_reducible exact LeO.refl _)
   | (with_reducible exact LeO.none _)
   | (with_reducible refine LeO.ite ?_ ?_)
   | (with_reducible refine LeO.bind ?_ (fun _ => ?_))
   | exact ih0 _ _ _ _ _ _ _
   | exact LeO.none _
   | refine LeO.ite ?_ ?_
   | refine LeO.bind ?_ (fun _ => ?_)
theorem backfillref01_Div.mono : ∀ a0 a1 a2 k, LeO (backfillref01_Div.f k a0 a1 a2) (backfillref01_Div.f (k + 1) a0 a1 a2) := by
 intro a0 a1 a2 k
 have ih0 := backfillref01_Div.mono_l k
 unfold backfillref01_Div.f
 repeat' first
   | (with_reducible exact ih0 _ _ _ _ _ _ _)
   | (with_reducible exact LeO.refl _)
   | (with_reducible exact LeO.none _)
   | (with_reducible refine LeO.ite ?_ ?_)
   | (with_reducible refine LeO.bind ?_ (fun _ => ?_))
   | exact ih0 _ _ _ _ _ _ _
   | exact LeO.none _
   | refine LeO.ite ?_ ?_
   | refine LeO.bind ?_ (fun _ => ?_)
set_option maxHeartbeats 8000000 in
set_option maxRecDepth 100000 in
theorem backfillref01_Div.calls (k : Nat) (a0_0 : Int) (a0_1 : Int) (a1 : Int) (r1 : Int) (r2 : Int) (r3 : Int) (r4 : Bool) (w : World) (h : backfillref01_Div.f k a0_0 a0_1 a1 = some (r1, r2, r3, r4)) :
  Calls Tryd.prog 100 #[.agg #[.int .u64 a0_0, .int .u64 a0_1], .int .u64 a1] w fun e w' => e = .returned (.tuple #[.agg #[.int .u64 r1, .int .u64 r2], .int .u64 r3, .bool r4]) ∧ Below w.heap.size w w' := by
 have hu94 := Tryd.underlying94
 have HB := Aside0.mk (Below.refl w.heap.size w)
 have H : (if a1 = 0 then (some (0, 0, 0, false)) else (backfillref01_Div.l0 k a1 0 0 a0_0 a0_1 0 0)) = some (r1, r2, r3, r4) := h
 clear h
 by_cases c3 : a1 = 0
 ·rw [if_pos c3] at H
  have c3b0 : (a1 == 0) = true := beq_iff_eq.mpr c3
  have c3b1 : (a1 != 0) = false := bne_eq_false_iff_eq.mpr c3
  clear c3
  simp only [Option.some.injEq, Prod.mk.injEq] at H
  obtain ⟨rfl, rfl, rfl, rfl⟩ := H
  go_enter Tryd.func100, Tryd.ntmps100
  go_wp2_with (first | ((with_reducible refine gate_dst (N := 2) rfl ?_); refine bxA 2 #[.int .u64 a0_0, .int .u64 a0_1] 94 ?_; intro gb383 hg w4 hbox hb; have n0_ := Aside0.mk (below_step bA hb); have n1_ := Aside0.mk (hbox); have n2_ := Aside0.mk (gwA hg bA); have n3_ := Aside0.mk (gwA hg bA); clear HB; have HB := n0_; have BK383 := n1_; have GW383 := n2_; have GE383 := n3_; clear n0_ n1_ n2_ n3_ hb hbox hg) | ((with_reducible refine gate_dst (N := 4) rfl ?_); refine bxA 4 #[.int .u64 0, .int .u64 0] 94 ?_; intro gb384 hg w5 hbox hb; have n0_ := Aside0.mk (blk_below (g := gb383) kA hb); have n1_ := Aside0.mk (below_step bA hb); have n2_ := Aside0.mk (hbox); have n3_ := Aside0.mk (gwA hg bA); have n4_ := Aside0.mk (gwA hg bA); have n5_ := Aside0.mk (neA (g := gb383) hg kA); have n6_ := Aside0.mk (neB (g := gb383) hg kA); clear BK383 HB; have BK383 := n0_; have HB := n1_; have BK384 := n2_; have GW384 := n3_; have GE384 := n4_; have NB383_384 := n5_; have NB384_383 := n6_; clear n0_ n1_ n2_ n3_ n4_ n5_ n6_ hb hbox hg; have hnb6 := NB384_383.out; have hnc6 := NB383_384.out; have hcz7_0 : w5.cell? ⟨gb384, 0, none⟩ = some (.int .u64 0) := (blk_cell BK384.out 0).trans rfl; have hcz7_1 : w5.cell? ⟨gb384, 1, none⟩ = some (.int .u64 0) := (blk_cell BK384.out 1).trans rfl; have hfz7_0 := blk_frozen BK384.out 0; have hfz7_1 := blk_frozen BK384.out 1))
  refine bodyPost_ret (results_ctt rfl _ _ gb384 94 #[.int .u64 0, .int .u64 0] (0, 0) _ rfl (by (with_reducible repeat (first | refine blk_drewN ?_ _ | refine blk_drew ?_ | refine blk_alloc ?_ _)); refine blk_put (cs := #[.int .u64 0, .int .u64 0]) ?_ 1 _ rfl; (with_reducible repeat (first | refine blk_drewN ?_ _ | refine blk_drew ?_ | refine blk_alloc ?_ _)); refine blk_put (cs := #[.int .u64 0, .int .u64 0]) ?_ 0 _ rfl; exact kA) Tryd.underlying94 rfl (by kernel_rfl)) rfl ?_
  exact ⟨by first | rfl | (simp [errW_none, errW_some] <;> rfl) | (simp [*, errW_none, errW_some] <;> rfl), bA⟩
 ·rw [if_neg c3] at H
  have c3b0 : (a1 == 0) = false := beq_eq_false_iff_ne.mpr c3
  have c3b1 : (a1 != 0) = true := bne_iff_ne.mpr c3
  have H' := Aside0.mk H
  clear H
  go_enter Tryd.func100, Tryd.ntmps100
  go_wp2_with (first | ((with_reducible refine gate_dst (N := 2) rfl ?_); refine bxA 2 #[.int .u64 a0_0, .int .u64 a0_1] 94 ?_; intro gb383 hg w8 hbox hb; have n0_ := Aside0.mk (below_step bA hb); have n1_ := Aside0.mk (hbox); have n2_ := Aside0.mk (gwA hg bA); have n3_ := Aside0.mk (gwA hg bA); clear HB; have HB := n0_; have BK383 := n1_; have GW383 := n2_; have GE383 := n3_; clear n0_ n1_ n2_ n3_ hb hbox hg) | ((with_reducible refine gate_dst (N := 4) rfl ?_); refine bxA 4 #[.int .u64 0, .int .u64 0] 94 ?_; intro gb384 hg w9 hbox hb; have n0_ := Aside0.mk (blk_below (g := gb383) kA hb); have n1_ := Aside0.mk (below_step bA hb); have n2_ := Aside0.mk (hbox); have n3_ := Aside0.mk (gwA hg bA); have n4_ := Aside0.mk (gwA hg bA); have n5_ := Aside0.mk (neA (g := gb383) hg kA); have n6_ := Aside0.mk (neB (g := gb383) hg kA); clear BK383 HB; have BK383 := n0_; have HB := n1_; have BK384 := n2_; have GW384 := n3_; have GE384 := n4_; have NB383_384 := n5_; have NB384_383 := n6_; clear n0_ n1_ n2_ n3_ n4_ n5_ n6_ hb hbox hg) | ((with_reducible refine gate_dst (N := 7) rfl ?_); refine bxA 7 #[.int .u64 0, .int .u64 0] 94 ?_; intro gb385 hg w10 hbox hb; have n0_ := Aside0.mk (blk_below (g := gb383) kA hb); have n1_ := Aside0.mk (blk_below (g := gb384) kA hb); have n2_ := Aside0.mk (below_step bA hb); have n3_ := Aside0.mk (hbox); have n4_ := Aside0.mk (gwA hg bA); have n5_ := Aside0.mk (gwA hg bA); have n6_ := Aside0.mk (neA (g := gb383) hg kA); have n7_ := Aside0.mk (neB (g := gb383) hg kA); have n8_ := Aside0.mk (neA (g := gb384) hg kA); have n9_ := Aside0.mk (neB (g := gb384) hg kA); clear BK383 BK384 HB; have BK383 := n0_; have BK384 := n1_; have HB := n2_; have BK385 := n3_; have GW385 := n4_; have GE385 := n5_; have NB383_385 := n6_; have NB385_383 := n7_; have NB384_385 := n8_; have NB385_384 := n9_; clear n0_ n1_ n2_ n3_ n4_ n5_ n6_ n7_ n8_ n9_ hb hbox hg; have hnb11 := NB385_383.out; have hnc11 := NB383_385.out; have hnb12 := NB385_384.out; have hnc12 := NB384_385.out; have hcz13_0 : w10.cell? ⟨gb385, 0, none⟩ = some (.int .u64 0) := (blk_cell BK385.out 0).trans rfl; have hcz13_1 : w10.cell? ⟨gb385, 1, none⟩ = some (.int .u64 0) := (blk_cell BK385.out 1).trans rfl; have hfz13_0 := blk_frozen BK385.out 0; have hfz13_1 := blk_frozen BK385.out 1))
  go_loopg [8, 9] k (fun kq v8 v9 w' => ∃ (x8_1 : Int) (x9_1 : Int) (x384000_1 : Int) (x384001_1 : Int) (x386000_1 : Int) (x386001_1 : Int), v8 = .int .u64 x8_1 ∧ v9 = .int .i64 x9_1 ∧ Aside0 (backfillref01_Div.l0 kq a1 x8_1 x9_1 x384000_1 x384001_1 x386000_1 x386001_1 = some (r1, r2, r3, r4)) ∧ Aside0 (kq ≤ k) ∧ Aside0 (w'.heap[gb383]? = some (.cells #[.int .u64 x384000_1, .int .u64 x384001_1] 94 (0, 0))) ∧ Aside0 (w'.heap[gb384]? = some (.cells #[.int .u64 0, .int .u64 0] 94 (0, 0))) ∧ Aside0 (w'.heap[gb385]? = some (.cells #[.int .u64 x386000_1, .int .u64 x386001_1] 94 (0, 0))) ∧ Aside0 (Below w.heap.size w w'))
  case atStart => exact ⟨(0), (0), (a0_0), (a0_1), (0), (0), (by first | rfl | (simp; done) | (simp [*]; done)), (by first | rfl | (simp; done) | (simp [*]; done)), H', ⟨Nat.le_refl _⟩, ⟨by (with_reducible repeat (first | refine blk_drewN ?_ _ | refine blk_drew ?_ | refine blk_alloc ?_ _)); refine blk_far ?_ NB383_385.out _; (with_reducible repeat (first | refine blk_drewN ?_ _ | refine blk_drew ?_ | refine blk_alloc ?_ _)); refine blk_far ?_ NB383_385.out _; exact kA⟩, ⟨by (with_reducible repeat (first | refine blk_drewN ?_ _ | refine blk_drew ?_ | refine blk_alloc ?_ _)); refine blk_far ?_ NB384_385.out _; (with_reducible repeat (first | refine blk_drewN ?_ _ | refine blk_drew ?_ | refine blk_alloc ?_ _)); refine blk_far ?_ NB384_385.out _; exact kA⟩, ⟨by (with_reducible repeat (first | refine blk_drewN ?_ _ | refine blk_drew ?_ | refine blk_alloc ?_ _)); refine blk_put (cs := #[.int .u64 0, .int .u64 0]) ?_ 1 _ rfl; (with_reducible repeat (first | refine blk_drewN ?_ _ | refine blk_drew ?_ | refine blk_alloc ?_ _)); refine blk_put (cs := #[.int .u64 0, .int .u64 0]) ?_ 0 _ rfl; exact kA⟩, ⟨bA⟩⟩
  case round =>
   clear H'
   try clear c1
   try clear p2
   try clear c3
   try clear c3b0
   try clear c3b1
   try clear c6
   try clear c10
   try clear c11
   try clear c12
   try clear hcz13_0
   try clear hcz13_1
   try clear hcz7_0
   try clear hcz7_1
   try clear hfz13_0
   try clear hfz13_1
   try clear hfz7_0
   try clear hfz7_1
   obtain ⟨x8_1, x9_1, x384000_1, x384001_1, x386000_1, x386001_1, rfl, rfl, HA, HK1, BK383, BK384, BK385, HB⟩ := hrel
   cases gk with
   | zero => exact absurd HA.out (by simp [backfillref01_Div.l0])
   | succ k1 =>
    have H := HA.out
    clear HA
    simp only [backfillref01_Div.l0] at H
    by_cases c14 : x9_1 < 128
    ·rw [if_pos c14] at H
     have c14b0 : decide (x9_1 < 128) = true := decide_eq_true c14
     clear c14; replace H := Option.bind_eq_some_iff.mp H; obtain ⟨⟨t386, t387⟩, A150, H⟩ := H; replace H : ((backfillref01_Shl.f x386000_1 x386001_1 1).bind fun bt388 => (if (x8_1 / 9223372036854775808) = 1 then (backfillref01_Div.l0 k1 a1 (IntKind.u64.wrap ((IntKind.u64.wrap ((IntKind.u64.wrap (x8_1 * 2)) + (x384000_1 / 9223372036854775808))) - a1)) (wrap64 (x9_1 + 1)) t386 t387 bt388.1 (IntKind.u64.wrap (bt388.2 + 1))) else (if (IntKind.u64.wrap ((IntKind.u64.wrap (x8_1 * 2)) + (x384000_1 / 9223372036854775808))) ≥ a1 then (backfillref01_Div.l0 k1 a1 (IntKind.u64.wrap ((IntKind.u64.wrap ((IntKind.u64.wrap (x8_1 * 2)) + (x384000_1 / 9223372036854775808))) - a1)) (wrap64 (x9_1 + 1)) t386 t387 bt388.1 (IntKind.u64.wrap (bt388.2 + 1))) else (backfillref01_Div.l0 k1 a1 (IntKind.u64.wrap ((IntKind.u64.wrap (x8_1 * 2)) + (x384000_1 / 9223372036854775808))) (wrap64 (x9_1 + 1)) t386 t387 bt388.1 bt388.2)))) = some (r1, r2, r3, r4) := H; have A15 := Aside0.mk A150; clear A150; replace H := Option.bind_eq_some_iff.mp H; obtain ⟨⟨t388, t389⟩, A160, H⟩ := H; replace H : (if (x8_1 / 9223372036854775808) = 1 then (backfillref01_Div.l0 k1 a1 (IntKind.u64.wrap ((IntKind.u64.wrap ((IntKind.u64.wrap (x8_1 * 2)) + (x384000_1 / 9223372036854775808))) - a1)) (wrap64 (x9_1 + 1)) t386 t387 t388 (IntKind.u64.wrap (t389 + 1))) else (if (IntKind.u64.wrap ((IntKind.u64.wrap (x8_1 * 2)) + (x384000_1 / 9223372036854775808))) ≥ a1 then (backfillref01_Div.l0 k1 a1 (IntKind.u64.wrap ((IntKind.u64.wrap ((IntKind.u64.wrap (x8_1 * 2)) + (x384000_1 / 9223372036854775808))) - a1)) (wrap64 (x9_1 + 1)) t386 t387 t388 (IntKind.u64.wrap (t389 + 1))) else (backfillref01_Div.l0 k1 a1 (IntKind.u64.wrap ((IntKind.u64.wrap (x8_1 * 2)) + (x384000_1 / 9223372036854775808))) (wrap64 (x9_1 + 1)) t386 t387 t388 t389))) = some (r1, r2, r3, r4) := H; have A16 := Aside0.mk A160; clear A160
     by_cases c17 : (x8_1 / 9223372036854775808) = 1
     ·rw [if_pos c17] at H
      have c17b0 : ((x8_1 / 9223372036854775808) == 1) = true := beq_iff_eq.mpr c17
      have c17b1 : ((x8_1 / 9223372036854775808) != 1) = false := bne_eq_false_iff_eq.mpr c17
      clear c17
      have H' := Aside0.mk H
      clear H
      have hnb18 := NB383_384.out
      have hnc18 := NB384_383.out
      have hnb19 := NB383_385.out
      have hnc19 := NB385_383.out
      have hcz20_0 : wr.cell? ⟨gb383, 0, none⟩ = some (.int .u64 x384000_1) := (blk_cell BK383.out 0).trans rfl
      have hcz20_1 : wr.cell? ⟨gb383, 1, none⟩ = some (.int .u64 x384001_1) := (blk_cell BK383.out 1).trans rfl
      have hfz20_0 := blk_frozen BK383.out 0
      have hfz20_1 := blk_frozen BK383.out 1
      go_wp2_with (first | ((with_reducible refine gate_callee (f := 102) rfl ?_); refine goesL_ (some 29) rfl rfl Tryd.func102 (by kernel_rfl) rfl #[.agg #[.int .u64 x384000_1, .int .u64 x384001_1], .int .i64 1] rfl aA ?_; (with_reducible refine (backfillref01_Shl.calls x384000_1 x384001_1 1 t386 t387 _ A15.out).mono ?_); rintro e w21 ⟨rfl, hb⟩; refine ⟨_, rfl, ?_⟩; have n0_ := Aside0.mk (blk_below (g := gb383) kA hb); have n1_ := Aside0.mk (blk_below (g := gb384) kA hb); have n2_ := Aside0.mk (blk_below (g := gb385) kA hb); have n3_ := Aside0.mk (below_step bA hb); clear BK383 BK384 BK385 HB; have BK383 := n0_; have BK384 := n1_; have BK385 := n2_; have HB := n3_; clear n0_ n1_ n2_ n3_; (try clear hb); have hcz22_0 : w21.cell? ⟨gb383, 0, none⟩ = some (.int .u64 x384000_1) := (blk_cell BK383.out 0).trans rfl; have hcz22_1 : w21.cell? ⟨gb383, 1, none⟩ = some (.int .u64 x384001_1) := (blk_cell BK383.out 1).trans rfl; have hfz22_0 := blk_frozen BK383.out 0; have hfz22_1 := blk_frozen BK383.out 1; have hnb23 := NB385_384.out; have hnc23 := NB384_385.out; have hcz24_0 : w21.cell? ⟨gb385, 0, none⟩ = some (.int .u64 x386000_1) := (blk_cell BK385.out 0).trans rfl; have hcz24_1 : w21.cell? ⟨gb385, 1, none⟩ = some (.int .u64 x386001_1) := (blk_cell BK385.out 1).trans rfl; have hfz24_0 := blk_frozen BK385.out 0; have hfz24_1 := blk_frozen BK385.out 1) | ((with_reducible refine gate_callee (f := 102) rfl ?_); refine goesL_ (some 31) rfl rfl Tryd.func102 (by kernel_rfl) rfl #[.agg #[.int .u64 x386000_1, .int .u64 x386001_1], .int .i64 1] rfl aA ?_; (with_reducible refine (backfillref01_Shl.calls x386000_1 x386001_1 1 t388 t389 _ A16.out).mono ?_); rintro e w25 ⟨rfl, hb⟩; refine ⟨_, rfl, ?_⟩; have n0_ := Aside0.mk (blk_below (g := gb383) (o := .cells #[.int .u64 t386, .int .u64 t387] 94 (0, 0)) (by (with_reducible repeat (first | refine blk_drewN ?_ _ | refine blk_drew ?_ | refine blk_alloc ?_ _)); refine blk_put (cs := #[.int .u64 t386, .int .u64 x384001_1]) ?_ 1 _ rfl; (with_reducible repeat (first | refine blk_drewN ?_ _ | refine blk_drew ?_ | refine blk_alloc ?_ _)); refine blk_put (cs := #[.int .u64 x384000_1, .int .u64 x384001_1]) ?_ 0 _ rfl; exact kA) hb); have n1_ := Aside0.mk (blk_below (g := gb384) (o := .cells #[.int .u64 0, .int .u64 0] 94 (0, 0)) (by (with_reducible repeat (first | refine blk_drewN ?_ _ | refine blk_drew ?_ | refine blk_alloc ?_ _)); refine blk_far ?_ NB384_383.out _; (with_reducible repeat (first | refine blk_drewN ?_ _ | refine blk_drew ?_ | refine blk_alloc ?_ _)); refine blk_far ?_ NB384_383.out _; exact kA) hb); have n2_ := Aside0.mk (blk_below (g := gb385) (o := .cells #[.int .u64 x386000_1, .int .u64 x386001_1] 94 (0, 0)) (by (with_reducible repeat (first | refine blk_drewN ?_ _ | refine blk_drew ?_ | refine blk_alloc ?_ _)); refine blk_far ?_ NB385_383.out _; (with_reducible repeat (first | refine blk_drewN ?_ _ | refine blk_drew ?_ | refine blk_alloc ?_ _)); refine blk_far ?_ NB385_383.out _; exact kA) hb); have n3_ := Aside0.mk (below_step bA hb); clear BK383 BK384 BK385 HB; have BK383 := n0_; have BK384 := n1_; have BK385 := n2_; have HB := n3_; clear n0_ n1_ n2_ n3_; (try clear hb); have hcz26_0 : w25.cell? ⟨gb385, 0, none⟩ = some (.int .u64 x386000_1) := (blk_cell BK385.out 0).trans rfl; have hcz26_1 : w25.cell? ⟨gb385, 1, none⟩ = some (.int .u64 x386001_1) := (blk_cell BK385.out 1).trans rfl; have hfz26_0 := blk_frozen BK385.out 0; have hfz26_1 := blk_frozen BK385.out 1))
      go_roundg k1
      case measure => have := HK1.out; omega
      case rel => exact ⟨(IntKind.u64.wrap ((IntKind.u64.wrap ((IntKind.u64.wrap (x8_1 * 2)) + (x384000_1 / 9223372036854775808))) - a1)), (wrap64 (x9_1 + 1)), (t386), (t387), (t388), (IntKind.u64.wrap (t389 + 1)), (by first | rfl | (simp; done) | (simp [*]; done)), (by first | rfl | (simp; done) | (simp [*]; done)), H', ⟨by have := HK1.out; omega⟩, ⟨by (with_reducible repeat (first | refine blk_drewN ?_ _ | refine blk_drew ?_ | refine blk_alloc ?_ _)); refine blk_far ?_ NB383_385.out _; (with_reducible repeat (first | refine blk_drewN ?_ _ | refine blk_drew ?_ | refine blk_alloc ?_ _)); refine blk_far ?_ NB383_385.out _; (with_reducible repeat (first | refine blk_drewN ?_ _ | refine blk_drew ?_ | refine blk_alloc ?_ _)); refine blk_far ?_ NB383_385.out _; exact kA⟩, ⟨by (with_reducible repeat (first | refine blk_drewN ?_ _ | refine blk_drew ?_ | refine blk_alloc ?_ _)); refine blk_far ?_ NB384_385.out _; (with_reducible repeat (first | refine blk_drewN ?_ _ | refine blk_drew ?_ | refine blk_alloc ?_ _)); refine blk_far ?_ NB384_385.out _; (with_reducible repeat (first | refine blk_drewN ?_ _ | refine blk_drew ?_ | refine blk_alloc ?_ _)); refine blk_far ?_ NB384_385.out _; exact kA⟩, ⟨by (with_reducible repeat (first | refine blk_drewN ?_ _ | refine blk_drew ?_ | refine blk_alloc ?_ _)); refine blk_put (cs := #[.int .u64 t388, .int .u64 t389]) ?_ 1 _ rfl; (with_reducible repeat (first | refine blk_drewN ?_ _ | refine blk_drew ?_ | refine blk_alloc ?_ _)); refine blk_put (cs := #[.int .u64 t388, .int .u64 x386001_1]) ?_ 1 _ rfl; (with_reducible repeat (first | refine blk_drewN ?_ _ | refine blk_drew ?_ | refine blk_alloc ?_ _)); refine blk_put (cs := #[.int .u64 x386000_1, .int .u64 x386001_1]) ?_ 0 _ rfl; exact kA⟩, ⟨bA⟩⟩
     ·rw [if_neg c17] at H
      have c17b0 : ((x8_1 / 9223372036854775808) == 1) = false := beq_eq_false_iff_ne.mpr c17
      have c17b1 : ((x8_1 / 9223372036854775808) != 1) = true := bne_iff_ne.mpr c17
      by_cases c27 : (IntKind.u64.wrap ((IntKind.u64.wrap (x8_1 * 2)) + (x384000_1 / 9223372036854775808))) ≥ a1
      ·rw [if_pos c27] at H
       have c27b0 : decide (a1 ≤ (IntKind.u64.wrap ((IntKind.u64.wrap (x8_1 * 2)) + (x384000_1 / 9223372036854775808)))) = true := decide_eq_true c27
       clear c27
       have H' := Aside0.mk H
       clear H
       have hnb28 := NB383_384.out
       have hnc28 := NB384_383.out
       have hnb29 := NB383_385.out
       have hnc29 := NB385_383.out
       have hcz30_0 : wr.cell? ⟨gb383, 0, none⟩ = some (.int .u64 x384000_1) := (blk_cell BK383.out 0).trans rfl
       have hcz30_1 : wr.cell? ⟨gb383, 1, none⟩ = some (.int .u64 x384001_1) := (blk_cell BK383.out 1).trans rfl
       have hfz30_0 := blk_frozen BK383.out 0
       have hfz30_1 := blk_frozen BK383.out 1
       go_wp2_with (first | ((with_reducible refine gate_callee (f := 102) rfl ?_); refine goesL_ (some 29) rfl rfl Tryd.func102 (by kernel_rfl) rfl #[.agg #[.int .u64 x384000_1, .int .u64 x384001_1], .int .i64 1] rfl aA ?_; (with_reducible refine (backfillref01_Shl.calls x384000_1 x384001_1 1 t386 t387 _ A15.out).mono ?_); rintro e w31 ⟨rfl, hb⟩; refine ⟨_, rfl, ?_⟩; have n0_ := Aside0.mk (blk_below (g := gb383) kA hb); have n1_ := Aside0.mk (blk_below (g := gb384) kA hb); have n2_ := Aside0.mk (blk_below (g := gb385) kA hb); have n3_ := Aside0.mk (below_step bA hb); clear BK383 BK384 BK385 HB; have BK383 := n0_; have BK384 := n1_; have BK385 := n2_; have HB := n3_; clear n0_ n1_ n2_ n3_; (try clear hb); have hcz32_0 : w31.cell? ⟨gb383, 0, none⟩ = some (.int .u64 x384000_1) := (blk_cell BK383.out 0).trans rfl; have hcz32_1 : w31.cell? ⟨gb383, 1, none⟩ = some (.int .u64 x384001_1) := (blk_cell BK383.out 1).trans rfl; have hfz32_0 := blk_frozen BK383.out 0; have hfz32_1 := blk_frozen BK383.out 1; have hnb33 := NB385_384.out; have hnc33 := NB384_385.out; have hcz34_0 : w31.cell? ⟨gb385, 0, none⟩ = some (.int .u64 x386000_1) := (blk_cell BK385.out 0).trans rfl; have hcz34_1 : w31.cell? ⟨gb385, 1, none⟩ = some (.int .u64 x386001_1) := (blk_cell BK385.out 1).trans rfl; have hfz34_0 := blk_frozen BK385.out 0; have hfz34_1 := blk_frozen BK385.out 1) | ((with_reducible refine gate_callee (f := 102) rfl ?_); refine goesL_ (some 31) rfl rfl Tryd.func102 (by kernel_rfl) rfl #[.agg #[.int .u64 x386000_1, .int .u64 x386001_1], .int .i64 1] rfl aA ?_; (with_reducible refine (backfillref01_Shl.calls x386000_1 x386001_1 1 t388 t389 _ A16.out).mono ?_); rintro e w35 ⟨rfl, hb⟩; refine ⟨_, rfl, ?_⟩; have n0_ := Aside0.mk (blk_below (g := gb383) (o := .cells #[.int .u64 t386, .int .u64 t387] 94 (0, 0)) (by (with_reducible repeat (first | refine blk_drewN ?_ _ | refine blk_drew ?_ | refine blk_alloc ?_ _)); refine blk_put (cs := #[.int .u64 t386, .int .u64 x384001_1]) ?_ 1 _ rfl; (with_reducible repeat (first | refine blk_drewN ?_ _ | refine blk_drew ?_ | refine blk_alloc ?_ _)); refine blk_put (cs := #[.int .u64 x384000_1, .int .u64 x384001_1]) ?_ 0 _ rfl; exact kA) hb); have n1_ := Aside0.mk (blk_below (g := gb384) (o := .cells #[.int .u64 0, .int .u64 0] 94 (0, 0)) (by (with_reducible repeat (first | refine blk_drewN ?_ _ | refine blk_drew ?_ | refine blk_alloc ?_ _)); refine blk_far ?_ NB384_383.out _; (with_reducible repeat (first | refine blk_drewN ?_ _ | refine blk_drew ?_ | refine blk_alloc ?_ _)); refine blk_far ?_ NB384_383.out _; exact kA) hb); have n2_ := Aside0.mk (blk_below (g := gb385) (o := .cells #[.int .u64 x386000_1, .int .u64 x386001_1] 94 (0, 0)) (by (with_reducible repeat (first | refine blk_drewN ?_ _ | refine blk_drew ?_ | refine blk_alloc ?_ _)); refine blk_far ?_ NB385_383.out _; (with_reducible repeat (first | refine blk_drewN ?_ _ | refine blk_drew ?_ | refine blk_alloc ?_ _)); refine blk_far ?_ NB385_383.out _; exact kA) hb); have n3_ := Aside0.mk (below_step bA hb); clear BK383 BK384 BK385 HB; have BK383 := n0_; have BK384 := n1_; have BK385 := n2_; have HB := n3_; clear n0_ n1_ n2_ n3_; (try clear hb); have hcz36_0 : w35.cell? ⟨gb385, 0, none⟩ = some (.int .u64 x386000_1) := (blk_cell BK385.out 0).trans rfl; have hcz36_1 : w35.cell? ⟨gb385, 1, none⟩ = some (.int .u64 x386001_1) := (blk_cell BK385.out 1).trans rfl; have hfz36_0 := blk_frozen BK385.out 0; have hfz36_1 := blk_frozen BK385.out 1))
       go_roundg k1
       case measure => have := HK1.out; omega
       case rel => exact ⟨(IntKind.u64.wrap ((IntKind.u64.wrap ((IntKind.u64.wrap (x8_1 * 2)) + (x384000_1 / 9223372036854775808))) - a1)), (wrap64 (x9_1 + 1)), (t386), (t387), (t388), (IntKind.u64.wrap (t389 + 1)), (by first | rfl | (simp; done) | (simp [*]; done)), (by first | rfl | (simp; done) | (simp [*]; done)), H', ⟨by have := HK1.out; omega⟩, ⟨by (with_reducible repeat (first | refine blk_drewN ?_ _ | refine blk_drew ?_ | refine blk_alloc ?_ _)); refine blk_far ?_ NB383_385.out _; (with_reducible repeat (first | refine blk_drewN ?_ _ | refine blk_drew ?_ | refine blk_alloc ?_ _)); refine blk_far ?_ NB383_385.out _; (with_reducible repeat (first | refine blk_drewN ?_ _ | refine blk_drew ?_ | refine blk_alloc ?_ _)); refine blk_far ?_ NB383_385.out _; exact kA⟩, ⟨by (with_reducible repeat (first | refine blk_drewN ?_ _ | refine blk_drew ?_ | refine blk_alloc ?_ _)); refine blk_far ?_ NB384_385.out _; (with_reducible repeat (first | refine blk_drewN ?_ _ | refine blk_drew ?_ | refine blk_alloc ?_ _)); refine blk_far ?_ NB384_385.out _; (with_reducible repeat (first | refine blk_drewN ?_ _ | refine blk_drew ?_ | refine blk_alloc ?_ _)); refine blk_far ?_ NB384_385.out _; exact kA⟩, ⟨by (with_reducible repeat (first | refine blk_drewN ?_ _ | refine blk_drew ?_ | refine blk_alloc ?_ _)); refine blk_put (cs := #[.int .u64 t388, .int .u64 t389]) ?_ 1 _ rfl; (with_reducible repeat (first | refine blk_drewN ?_ _ | refine blk_drew ?_ | refine blk_alloc ?_ _)); refine blk_put (cs := #[.int .u64 t388, .int .u64 x386001_1]) ?_ 1 _ rfl; (with_reducible repeat (first | refine blk_drewN ?_ _ | refine blk_drew ?_ | refine blk_alloc ?_ _)); refine blk_put (cs := #[.int .u64 x386000_1, .int .u64 x386001_1]) ?_ 0 _ rfl; exact kA⟩, ⟨bA⟩⟩
      ·rw [if_neg c27] at H
       have c27b0 : decide (a1 ≤ (IntKind.u64.wrap ((IntKind.u64.wrap (x8_1 * 2)) + (x384000_1 / 9223372036854775808)))) = false := decide_eq_false c27
       clear c27
       have H' := Aside0.mk H
       clear H
       have hnb37 := NB383_384.out
       have hnc37 := NB384_383.out
       have hnb38 := NB383_385.out
       have hnc38 := NB385_383.out
       have hcz39_0 : wr.cell? ⟨gb383, 0, none⟩ = some (.int .u64 x384000_1) := (blk_cell BK383.out 0).trans rfl
       have hcz39_1 : wr.cell? ⟨gb383, 1, none⟩ = some (.int .u64 x384001_1) := (blk_cell BK383.out 1).trans rfl
       have hfz39_0 := blk_frozen BK383.out 0
       have hfz39_1 := blk_frozen BK383.out 1
       go_wp2_with (first | ((with_reducible refine gate_callee (f := 102) rfl ?_); refine goesL_ (some 29) rfl rfl Tryd.func102 (by kernel_rfl) rfl #[.agg #[.int .u64 x384000_1, .int .u64 x384001_1], .int .i64 1] rfl aA ?_; (with_reducible refine (backfillref01_Shl.calls x384000_1 x384001_1 1 t386 t387 _ A15.out).mono ?_); rintro e w40 ⟨rfl, hb⟩; refine ⟨_, rfl, ?_⟩; have n0_ := Aside0.mk (blk_below (g := gb383) kA hb); have n1_ := Aside0.mk (blk_below (g := gb384) kA hb); have n2_ := Aside0.mk (blk_below (g := gb385) kA hb); have n3_ := Aside0.mk (below_step bA hb); clear BK383 BK384 BK385 HB; have BK383 := n0_; have BK384 := n1_; have BK385 := n2_; have HB := n3_; clear n0_ n1_ n2_ n3_; (try clear hb); have hcz41_0 : w40.cell? ⟨gb383, 0, none⟩ = some (.int .u64 x384000_1) := (blk_cell BK383.out 0).trans rfl; have hcz41_1 : w40.cell? ⟨gb383, 1, none⟩ = some (.int .u64 x384001_1) := (blk_cell BK383.out 1).trans rfl; have hfz41_0 := blk_frozen BK383.out 0; have hfz41_1 := blk_frozen BK383.out 1; have hnb42 := NB385_384.out; have hnc42 := NB384_385.out; have hcz43_0 : w40.cell? ⟨gb385, 0, none⟩ = some (.int .u64 x386000_1) := (blk_cell BK385.out 0).trans rfl; have hcz43_1 : w40.cell? ⟨gb385, 1, none⟩ = some (.int .u64 x386001_1) := (blk_cell BK385.out 1).trans rfl; have hfz43_0 := blk_frozen BK385.out 0; have hfz43_1 := blk_frozen BK385.out 1) | ((with_reducible refine gate_callee (f := 102) rfl ?_); refine goesL_ (some 31) rfl rfl Tryd.func102 (by kernel_rfl) rfl #[.agg #[.int .u64 x386000_1, .int .u64 x386001_1], .int .i64 1] rfl aA ?_; (with_reducible refine (backfillref01_Shl.calls x386000_1 x386001_1 1 t388 t389 _ A16.out).mono ?_); rintro e w44 ⟨rfl, hb⟩; refine ⟨_, rfl, ?_⟩; have n0_ := Aside0.mk (blk_below (g := gb383) (o := .cells #[.int .u64 t386, .int .u64 t387] 94 (0, 0)) (by (with_reducible repeat (first | refine blk_drewN ?_ _ | refine blk_drew ?_ | refine blk_alloc ?_ _)); refine blk_put (cs := #[.int .u64 t386, .int .u64 x384001_1]) ?_ 1 _ rfl; (with_reducible repeat (first | refine blk_drewN ?_ _ | refine blk_drew ?_ | refine blk_alloc ?_ _)); refine blk_put (cs := #[.int .u64 x384000_1, .int .u64 x384001_1]) ?_ 0 _ rfl; exact kA) hb); have n1_ := Aside0.mk (blk_below (g := gb384) (o := .cells #[.int .u64 0, .int .u64 0] 94 (0, 0)) (by (with_reducible repeat (first | refine blk_drewN ?_ _ | refine blk_drew ?_ | refine blk_alloc ?_ _)); refine blk_far ?_ NB384_383.out _; (with_reducible repeat (first | refine blk_drewN ?_ _ | refine blk_drew ?_ | refine blk_alloc ?_ _)); refine blk_far ?_ NB384_383.out _; exact kA) hb); have n2_ := Aside0.mk (blk_below (g := gb385) (o := .cells #[.int .u64 x386000_1, .int .u64 x386001_1] 94 (0, 0)) (by (with_reducible repeat (first | refine blk_drewN ?_ _ | refine blk_drew ?_ | refine blk_alloc ?_ _)); refine blk_far ?_ NB385_383.out _; (with_reducible repeat (first | refine blk_drewN ?_ _ | refine blk_drew ?_ | refine blk_alloc ?_ _)); refine blk_far ?_ NB385_383.out _; exact kA) hb); have n3_ := Aside0.mk (below_step bA hb); clear BK383 BK384 BK385 HB; have BK383 := n0_; have BK384 := n1_; have BK385 := n2_; have HB := n3_; clear n0_ n1_ n2_ n3_; (try clear hb); have hcz45_0 : w44.cell? ⟨gb385, 0, none⟩ = some (.int .u64 x386000_1) := (blk_cell BK385.out 0).trans rfl; have hcz45_1 : w44.cell? ⟨gb385, 1, none⟩ = some (.int .u64 x386001_1) := (blk_cell BK385.out 1).trans rfl; have hfz45_0 := blk_frozen BK385.out 0; have hfz45_1 := blk_frozen BK385.out 1))
       go_roundg k1
       case measure => have := HK1.out; omega
       case rel => exact ⟨(IntKind.u64.wrap ((IntKind.u64.wrap (x8_1 * 2)) + (x384000_1 / 9223372036854775808))), (wrap64 (x9_1 + 1)), (t386), (t387), (t388), (t389), (by first | rfl | (simp; done) | (simp [*]; done)), (by first | rfl | (simp; done) | (simp [*]; done)), H', ⟨by have := HK1.out; omega⟩, ⟨by (with_reducible repeat (first | refine blk_drewN ?_ _ | refine blk_drew ?_ | refine blk_alloc ?_ _)); refine blk_far ?_ NB383_385.out _; (with_reducible repeat (first | refine blk_drewN ?_ _ | refine blk_drew ?_ | refine blk_alloc ?_ _)); refine blk_far ?_ NB383_385.out _; exact kA⟩, ⟨by (with_reducible repeat (first | refine blk_drewN ?_ _ | refine blk_drew ?_ | refine blk_alloc ?_ _)); refine blk_far ?_ NB384_385.out _; (with_reducible repeat (first | refine blk_drewN ?_ _ | refine blk_drew ?_ | refine blk_alloc ?_ _)); refine blk_far ?_ NB384_385.out _; exact kA⟩, ⟨by (with_reducible repeat (first | refine blk_drewN ?_ _ | refine blk_drew ?_ | refine blk_alloc ?_ _)); refine blk_put (cs := #[.int .u64 t388, .int .u64 x386001_1]) ?_ 1 _ rfl; (with_reducible repeat (first | refine blk_drewN ?_ _ | refine blk_drew ?_ | refine blk_alloc ?_ _)); refine blk_put (cs := #[.int .u64 x386000_1, .int .u64 x386001_1]) ?_ 0 _ rfl; exact kA⟩, ⟨bA⟩⟩
    ·rw [if_neg c14] at H
     have c14b0 : decide (x9_1 < 128) = false := decide_eq_false c14
     clear c14
     simp only [Option.some.injEq, Prod.mk.injEq] at H
     obtain ⟨rfl, rfl, rfl, rfl⟩ := H
     have hnb46 := NB385_383.out
     have hnc46 := NB383_385.out
     have hnb47 := NB385_384.out
     have hnc47 := NB384_385.out
     have hcz48_0 : wr.cell? ⟨gb385, 0, none⟩ = some (.int .u64 x386000_1) := (blk_cell BK385.out 0).trans rfl
     have hcz48_1 : wr.cell? ⟨gb385, 1, none⟩ = some (.int .u64 x386001_1) := (blk_cell BK385.out 1).trans rfl
     have hfz48_0 := blk_frozen BK385.out 0
     have hfz48_1 := blk_frozen BK385.out 1
     have hnb49 := NB384_383.out
     have hnc49 := NB383_384.out
     have hcz50_0 : wr.cell? ⟨gb384, 0, none⟩ = some (.int .u64 0) := (blk_cell BK384.out 0).trans rfl
     have hcz50_1 : wr.cell? ⟨gb384, 1, none⟩ = some (.int .u64 0) := (blk_cell BK384.out 1).trans rfl
     have hfz50_0 := blk_frozen BK384.out 0
     have hfz50_1 := blk_frozen BK384.out 1
     go_wp2
     refine bodyPost_ret (results_ctt rfl _ _ gb384 94 #[.int .u64 x386000_1, .int .u64 x386001_1] (0, 0) _ rfl (by (with_reducible repeat (first | refine blk_drewN ?_ _ | refine blk_drew ?_ | refine blk_alloc ?_ _)); refine blk_put (cs := #[.int .u64 x386000_1, .int .u64 0]) ?_ 1 _ rfl; (with_reducible repeat (first | refine blk_drewN ?_ _ | refine blk_drew ?_ | refine blk_alloc ?_ _)); refine blk_put (cs := #[.int .u64 0, .int .u64 0]) ?_ 0 _ rfl; exact kA) Tryd.underlying94 rfl (by kernel_rfl)) rfl ?_
     exact ⟨by first | rfl | (simp [errW_none, errW_some] <;> rfl) | (simp [*, errW_none, errW_some] <;> rfl), bA⟩

/-! ### backfillref04_up: function 101 -/
def backfillref04_up.f (a0_0 : Int) (a0_1 : Int) : Option (Int × Int) := (backfillref01_Of.f 1).bind fun bt392 => ((backfillref01_Add.f a0_0 a0_1 bt392.1 bt392.2).bind fun bt394 => (some (bt394.1, bt394.2.1)))
def backfillref04_up.T1 : Bool × List (List Nat × List Nat) := (true, [([], []), ([], []), ([0, 1, 1], [0, 1]), ([2], [2]), ([3], [3]), ([3], [3]), ([], []), ([6, 4, 2, 0, 1, 2, 3, 4, 6], [4, 6]), ([5, 7, 0, 1, 2, 3, 4, 5, 6, 7], [5])])
def backfillref04_up.B1 : List Nat := [0, 0, 3, 7, 15, 15, 0, 95, 255]
theorem backfillref04_up.tab1 : rtab .any (opsOf Tryd.f101 1) = backfillref04_up.T1 := by kernel_rfl
theorem backfillref04_up.bits1 : waitsOk backfillref04_up.T1.2 backfillref04_up.B1 = true := by kernel_rfl
set_option maxHeartbeats 8000000 in
set_option maxRecDepth 100000 in
theorem backfillref04_up.calls (a0_0 : Int) (a0_1 : Int) (r1 : Int) (r2 : Int) (w : World) (h : backfillref04_up.f a0_0 a0_1 = some (r1, r2)) :
  Calls Tryd.prog 101 #[.agg #[.int .u64 a0_0, .int .u64 a0_1]] w fun e w' => e = .returned (.agg #[.int .u64 r1, .int .u64 r2]) ∧ Below w.heap.size w w' := by
 have hu94 := Tryd.underlying94
 have HB := Aside0.mk (Below.refl w.heap.size w)
 have H : ((backfillref01_Of.f 1).bind fun bt392 => ((backfillref01_Add.f a0_0 a0_1 bt392.1 bt392.2).bind fun bt394 => (some (bt394.1, bt394.2.1)))) = some (r1, r2) := h
 clear h; replace H := Option.bind_eq_some_iff.mp H; obtain ⟨⟨t392, t393⟩, A20, H⟩ := H; replace H : ((backfillref01_Add.f a0_0 a0_1 t392 t393).bind fun bt394 => (some (bt394.1, bt394.2.1))) = some (r1, r2) := H; have A2 := Aside0.mk A20; clear A20; replace H := Option.bind_eq_some_iff.mp H; obtain ⟨⟨t394, t395, t396⟩, A30, H⟩ := H; replace H : (some (t394, t395)) = some (r1, r2) := H; have A3 := Aside0.mk A30; clear A30
 simp only [Option.some.injEq, Prod.mk.injEq] at H
 obtain ⟨rfl, rfl⟩ := H
 go_enter Tryd.func101, Tryd.ntmps101
 try go_wp2_with (first | ((with_reducible refine gate_dst (N := 1) rfl ?_); refine bxA 1 #[.int .u64 a0_0, .int .u64 a0_1] 94 ?_; intro gb390 hg w4 hbox hb; have n0_ := Aside0.mk (below_step bA hb); have n1_ := Aside0.mk (hbox); have n2_ := Aside0.mk (gwA hg bA); have n3_ := Aside0.mk (gwA hg bA); clear HB; have HB := n0_; have BK390 := n1_; have GW390 := n2_; have GE390 := n3_; clear n0_ n1_ n2_ n3_ hb hbox hg) | ((with_reducible refine gate_dst (N := 2) rfl ?_); refine bxA 2 #[.int .u64 0, .int .u64 0] 94 ?_; intro gb391 hg w5 hbox hb; have n0_ := Aside0.mk (blk_below (g := gb390) kA hb); have n1_ := Aside0.mk (below_step bA hb); have n2_ := Aside0.mk (hbox); have n3_ := Aside0.mk (gwA hg bA); have n4_ := Aside0.mk (gwA hg bA); have n5_ := Aside0.mk (neA (g := gb390) hg kA); have n6_ := Aside0.mk (neB (g := gb390) hg kA); clear BK390 HB; have BK390 := n0_; have HB := n1_; have BK391 := n2_; have GW391 := n3_; have GE391 := n4_; have NB390_391 := n5_; have NB391_390 := n6_; clear n0_ n1_ n2_ n3_ n4_ n5_ n6_ hb hbox hg))
 have n0_ := Aside0.mk (blk_drew BK390.out); have n1_ := Aside0.mk (blk_drew BK391.out); have n2_ := Aside0.mk (below_drew1 HB.out); clear BK390 BK391 HB; have BK390 := n0_; have BK391 := n1_; have HB := n2_; clear n0_ n1_ n2_
 refine start_ (n := 9) (S := fun w' => w'.cell? ⟨gb390, 0, none⟩ = some (.int .u64 a0_0) ∧ w'.cell? ⟨gb390, 1, none⟩ = some (.int .u64 a0_1)) (ds := []) #[false, false, false, false, false, false, false, false, false] (by kernel_rfl) rfl rfl ⟨(blk_cell BK390.out 0).trans rfl, (blk_cell BK390.out 1).trans rfl⟩ (fun hHeld => ?_); refine with_tabW backfillref04_up.tab1 backfillref04_up.bits1 (fun HT_ HW_ => ?_)
 generalize w5.drew = w6 at BK390 BK391 HB hHeld ⊢
 refine take_ (i := 0) (N := some 6) (v := ?_) (a' := ?_) #[true, false, false, false, false, false, false, false, false] rfl rfl (take_ofW HT_.out HW_.out (by kernel_rfl)) (fun _ _ _ h => h) (Or.inl ⟨by rfl, ?_⟩) hHeld ?_ ?_
 rotate_left
 ·rintro w' ⟨s0, s1⟩
  go_simp; with_reducible rfl
 rotate_left
 ·simp only [Act.put, List.setIfInBounds_toArray, List.set_cons_zero, List.set_cons_succ, i64_w, i32_w]
  rfl
 refine join_ (σ := Nat) 2 #[true, true, true, true, true, true, true, false, false] (fun s_ => [(7, .agg #[.int .u64 t392, .int .u64 t393]), (8, .tuple #[.agg #[.int .u64 t394, .int .u64 t395], .bool t396]), (3, .pointer (some ⟨s_, 0, none⟩)), (5, .tuple #[.agg #[.int .u64 t394, .int .u64 t395], .bool t396]), (9, .agg #[.int .u64 t394, .int .u64 t395]), (10, .bool t396)]) (fun s_ w' => (w'.cell? ⟨gb390, 0, none⟩ = some (.int .u64 a0_0) ∧ w'.cell? ⟨gb390, 1, none⟩ = some (.int .u64 a0_1)) ∧ (w'.heap[gb390]? = some (.cells #[.int .u64 a0_0, .int .u64 a0_1] 94 (0, 0))) ∧ (w'.heap[gb391]? = some (.cells #[.int .u64 0, .int .u64 0] 94 (0, 0))) ∧ (w'.heap[s_]? = some (.cells #[.int .u64 0, .int .u64 0] 94 (0, 0))) ∧ (w.heap.size ≤ s_) ∧ (w.heap.size ≤ s_) ∧ (gb390 ≠ s_) ∧ (s_ ≠ gb390) ∧ (gb391 ≠ s_) ∧ (s_ ≠ gb391) ∧ (Below w.heap.size w w')) ?_ ?_
 rotate_left
 ·intro hCont
  refine two_ (i := 1) (j := 6) (Ni := some 7) (Nj := some 3) #[true, true, false, false, false, false, false, false, false] #[true, false, false, false, false, false, true, false, false] rfl rfl rfl rfl (two_of HT_.out (by kernel_rfl)) (by decide) (by decide) (fun K hK => ?_) (fun K hK => ?_)
  ·skip
   refine goes_ Tryd.func77 (by kernel_rfl) rfl #[.int .u64 1] (by rfl) rfl rfl aA ?_
   with_reducible refine (backfillref01_Of.calls 1 t392 t393 _ A2.out).mono ?_
   rintro e w7 ⟨rfl, hb⟩
   refine ⟨_, rfl, ?_⟩; have n0_ := Aside0.mk (blk_below (g := gb390) kA hb); have n1_ := Aside0.mk (blk_below (g := gb391) kA hb); have n2_ := Aside0.mk (below_step bA hb); clear BK390 BK391 HB; have BK390 := n0_; have BK391 := n1_; have HB := n2_; clear n0_ n1_ n2_; (try clear hb)
   refine hK.out _ _ ⟨(blk_cell BK390.out 0).trans rfl, (blk_cell BK390.out 1).trans rfl⟩ (fun hHeld => ?_)
   clear hK K
   refine norm_ (a' := ?_) ?_ ?_
   rotate_left
   ·show Act.put _ (some 7) _ = _
    simp only [Act.put, List.setIfInBounds_toArray, List.set_cons_zero, List.set_cons_succ, i64_w, i32_w]
    rfl
   refine two_ (i := 2) (j := 6) (Ni := some 8) (Nj := some 3) #[true, true, true, false, false, false, false, false, false] #[true, true, false, false, false, false, true, false, false] rfl rfl rfl rfl (two_of HT_.out (by kernel_rfl)) (by decide) (by decide) (fun K hK => ?_) (fun K hK => ?_)
   ·skip
    refine goes_ Tryd.func80 (by kernel_rfl) rfl #[.agg #[.int .u64 a0_0, .int .u64 a0_1], .agg #[.int .u64 t392, .int .u64 t393]] (by rfl) rfl rfl aA ?_
    with_reducible refine (backfillref01_Add.calls a0_0 a0_1 t392 t393 t394 t395 t396 _ A3.out).mono ?_
    rintro e w8 ⟨rfl, hb⟩
    refine ⟨_, rfl, ?_⟩; have n0_ := Aside0.mk (blk_below (g := gb390) kA hb); have n1_ := Aside0.mk (blk_below (g := gb391) kA hb); have n2_ := Aside0.mk (below_step bA hb); clear BK390 BK391 HB; have BK390 := n0_; have BK391 := n1_; have HB := n2_; clear n0_ n1_ n2_; (try clear hb)
    refine hK.out _ _ ⟨(blk_cell BK390.out 0).trans rfl, (blk_cell BK390.out 1).trans rfl⟩ (fun hHeld => ?_)
    clear hK K
    refine norm_ (a' := ?_) ?_ ?_
    rotate_left
    ·show Act.put _ (some 8) _ = _
     simp only [Act.put, List.setIfInBounds_toArray, List.set_cons_zero, List.set_cons_succ, i64_w, i32_w]
     rfl
    refine pure_ (i := 3) (N := some 5) (v := ?_) (a' := ?_) #[true, true, true, true, false, false, false, false, false] rfl rfl (any_of HT_.out (by kernel_rfl)) (fun _ _ _ h => h) (Or.inl ⟨by rfl, ?_⟩) ?_ ?_
    rotate_left
    ·intro w'
     go_simp; with_reducible rfl
    rotate_left
    ·simp only [Act.put, List.setIfInBounds_toArray, List.set_cons_zero, List.set_cons_succ, i64_w, i32_w]
     rfl
    refine pure_ (i := 4) (N := some 9) (v := ?_) (a' := ?_) #[true, true, true, true, true, false, false, false, false] rfl rfl (any_of HT_.out (by kernel_rfl)) (fun _ _ _ h => h) (Or.inl ⟨by rfl, ?_⟩) ?_ ?_
    rotate_left
    ·intro w'
     go_simp; with_reducible rfl
    rotate_left
    ·simp only [Act.put, List.setIfInBounds_toArray, List.set_cons_zero, List.set_cons_succ, i64_w, i32_w]
     rfl
    refine pure_ (i := 5) (N := some 10) (v := ?_) (a' := ?_) #[true, true, true, true, true, true, false, false, false] rfl rfl (any_of HT_.out (by kernel_rfl)) (fun _ _ _ h => h) (Or.inl ⟨by rfl, ?_⟩) ?_ ?_
    rotate_left
    ·intro w'
     go_simp; with_reducible rfl
    rotate_left
    ·simp only [Act.put, List.setIfInBounds_toArray, List.set_cons_zero, List.set_cons_succ, i64_w, i32_w]
     rfl
    refine one_ (i := 6) (N := some 3) #[true, true, true, true, true, true, true, false, false] rfl rfl (one_of HT_.out (by kernel_rfl)) (by decide) (fun K hK => ?_)
    refine box_step ?hg (N := 3) ?hd (cs := #[.int .u64 0, .int .u64 0]) (t := 94) ?hr ?_; (case hd => rfl); (case hg => rfl); (case hr => first | (go_simp; done) | (go_simp; rfl))
    intro gb397 hg w9 hbox hb
    have n0_ := Aside0.mk (blk_below (g := gb390) kA hb); have n1_ := Aside0.mk (blk_below (g := gb391) kA hb); have n2_ := Aside0.mk (below_step bA hb); have n3_ := Aside0.mk (hbox); have n4_ := Aside0.mk (gwA hg bA); have n5_ := Aside0.mk (gwA hg bA); have n6_ := Aside0.mk (neA (g := gb390) hg kA); have n7_ := Aside0.mk (neB (g := gb390) hg kA); have n8_ := Aside0.mk (neA (g := gb391) hg kA); have n9_ := Aside0.mk (neB (g := gb391) hg kA); clear BK390 BK391 HB; have BK390 := n0_; have BK391 := n1_; have HB := n2_; have BK397 := n3_; have GW397 := n4_; have GE397 := n5_; have NB390_397 := n6_; have NB397_390 := n7_; have NB391_397 := n8_; have NB397_391 := n9_; clear n0_ n1_ n2_ n3_ n4_ n5_ n6_ n7_ n8_ n9_ hb hbox hg
    refine hK.out _ _ ⟨(blk_cell BK390.out 0).trans rfl, (blk_cell BK390.out 1).trans rfl⟩ (fun hHeld => ?_)
    clear hK K
    refine norm_ (a' := ?_) ?_ ?_
    rotate_left
    ·show Act.put _ (some 3) _ = _
     simp only [Act.put, List.setIfInBounds_toArray, List.set_cons_zero, List.set_cons_succ, i64_w, i32_w]
     rfl
    exact norm_ (by simp only [putAll, Act.put, List.setIfInBounds_toArray, List.set_cons_zero, List.set_cons_succ]) (hCont (gb397) _ ⟨hHeld, kA, kA, kA, GW397.out, GE397.out, NB390_397.out, NB397_390.out, NB391_397.out, NB397_391.out, bA⟩)
   ·skip
    refine box_step ?hg (N := 3) ?hd (cs := #[.int .u64 0, .int .u64 0]) (t := 94) ?hr ?_; (case hd => rfl); (case hg => rfl); (case hr => first | (go_simp; done) | (go_simp; rfl))
    intro gb397 hg w8 hbox hb
    have n0_ := Aside0.mk (blk_below (g := gb390) kA hb); have n1_ := Aside0.mk (blk_below (g := gb391) kA hb); have n2_ := Aside0.mk (below_step bA hb); have n3_ := Aside0.mk (hbox); have n4_ := Aside0.mk (gwA hg bA); have n5_ := Aside0.mk (gwA hg bA); have n6_ := Aside0.mk (neA (g := gb390) hg kA); have n7_ := Aside0.mk (neB (g := gb390) hg kA); have n8_ := Aside0.mk (neA (g := gb391) hg kA); have n9_ := Aside0.mk (neB (g := gb391) hg kA); clear BK390 BK391 HB; have BK390 := n0_; have BK391 := n1_; have HB := n2_; have BK397 := n3_; have GW397 := n4_; have GE397 := n5_; have NB390_397 := n6_; have NB397_390 := n7_; have NB391_397 := n8_; have NB397_391 := n9_; clear n0_ n1_ n2_ n3_ n4_ n5_ n6_ n7_ n8_ n9_ hb hbox hg
    refine hK.out _ _ ⟨(blk_cell BK390.out 0).trans rfl, (blk_cell BK390.out 1).trans rfl⟩ (fun hHeld => ?_)
    clear hK K
    refine norm_ (a' := ?_) ?_ ?_
    rotate_left
    ·show Act.put _ (some 3) _ = _
     simp only [Act.put, List.setIfInBounds_toArray, List.set_cons_zero, List.set_cons_succ, i64_w, i32_w]
     rfl
    refine one_ (i := 2) (N := some 8) #[true, true, true, false, false, false, true, false, false] rfl rfl (one_of HT_.out (by kernel_rfl)) (by decide) (fun K hK => ?_)
    refine goes_ Tryd.func80 (by kernel_rfl) rfl #[.agg #[.int .u64 a0_0, .int .u64 a0_1], .agg #[.int .u64 t392, .int .u64 t393]] (by rfl) rfl rfl aA ?_
    with_reducible refine (backfillref01_Add.calls a0_0 a0_1 t392 t393 t394 t395 t396 _ A3.out).mono ?_
    rintro e w9 ⟨rfl, hb⟩
    refine ⟨_, rfl, ?_⟩; have n0_ := Aside0.mk (blk_below (g := gb390) kA hb); have n1_ := Aside0.mk (blk_below (g := gb391) kA hb); have n2_ := Aside0.mk (blk_below (g := gb397) kA hb); have n3_ := Aside0.mk (below_step bA hb); clear BK390 BK391 BK397 HB; have BK390 := n0_; have BK391 := n1_; have BK397 := n2_; have HB := n3_; clear n0_ n1_ n2_ n3_; (try clear hb)
    refine hK.out _ _ ⟨(blk_cell BK390.out 0).trans rfl, (blk_cell BK390.out 1).trans rfl⟩ (fun hHeld => ?_)
    clear hK K
    refine norm_ (a' := ?_) ?_ ?_
    rotate_left
    ·show Act.put _ (some 8) _ = _
     simp only [Act.put, List.setIfInBounds_toArray, List.set_cons_zero, List.set_cons_succ, i64_w, i32_w]
     rfl
    refine pure_ (i := 3) (N := some 5) (v := ?_) (a' := ?_) #[true, true, true, true, false, false, true, false, false] rfl rfl (any_of HT_.out (by kernel_rfl)) (fun _ _ _ h => h) (Or.inl ⟨by rfl, ?_⟩) ?_ ?_
    rotate_left
    ·intro w'
     go_simp; with_reducible rfl
    rotate_left
    ·simp only [Act.put, List.setIfInBounds_toArray, List.set_cons_zero, List.set_cons_succ, i64_w, i32_w]
     rfl
    refine pure_ (i := 4) (N := some 9) (v := ?_) (a' := ?_) #[true, true, true, true, true, false, true, false, false] rfl rfl (any_of HT_.out (by kernel_rfl)) (fun _ _ _ h => h) (Or.inl ⟨by rfl, ?_⟩) ?_ ?_
    rotate_left
    ·intro w'
     go_simp; with_reducible rfl
    rotate_left
    ·simp only [Act.put, List.setIfInBounds_toArray, List.set_cons_zero, List.set_cons_succ, i64_w, i32_w]
     rfl
    refine pure_ (i := 5) (N := some 10) (v := ?_) (a' := ?_) #[true, true, true, true, true, true, true, false, false] rfl rfl (any_of HT_.out (by kernel_rfl)) (fun _ _ _ h => h) (Or.inl ⟨by rfl, ?_⟩) ?_ ?_
    rotate_left
    ·intro w'
     go_simp; with_reducible rfl
    rotate_left
    ·simp only [Act.put, List.setIfInBounds_toArray, List.set_cons_zero, List.set_cons_succ, i64_w, i32_w]
     rfl
    exact norm_ (by simp only [putAll, Act.put, List.setIfInBounds_toArray, List.set_cons_zero, List.set_cons_succ]) (hCont (gb397) _ ⟨hHeld, kA, kA, kA, GW397.out, GE397.out, NB390_397.out, NB397_390.out, NB391_397.out, NB397_391.out, bA⟩)
  ·skip
   refine box_step ?hg (N := 3) ?hd (cs := #[.int .u64 0, .int .u64 0]) (t := 94) ?hr ?_; (case hd => rfl); (case hg => rfl); (case hr => first | (go_simp; done) | (go_simp; rfl))
   intro gb397 hg w7 hbox hb
   have n0_ := Aside0.mk (blk_below (g := gb390) kA hb); have n1_ := Aside0.mk (blk_below (g := gb391) kA hb); have n2_ := Aside0.mk (below_step bA hb); have n3_ := Aside0.mk (hbox); have n4_ := Aside0.mk (gwA hg bA); have n5_ := Aside0.mk (gwA hg bA); have n6_ := Aside0.mk (neA (g := gb390) hg kA); have n7_ := Aside0.mk (neB (g := gb390) hg kA); have n8_ := Aside0.mk (neA (g := gb391) hg kA); have n9_ := Aside0.mk (neB (g := gb391) hg kA); clear BK390 BK391 HB; have BK390 := n0_; have BK391 := n1_; have HB := n2_; have BK397 := n3_; have GW397 := n4_; have GE397 := n5_; have NB390_397 := n6_; have NB397_390 := n7_; have NB391_397 := n8_; have NB397_391 := n9_; clear n0_ n1_ n2_ n3_ n4_ n5_ n6_ n7_ n8_ n9_ hb hbox hg
   refine hK.out _ _ ⟨(blk_cell BK390.out 0).trans rfl, (blk_cell BK390.out 1).trans rfl⟩ (fun hHeld => ?_)
   clear hK K
   refine norm_ (a' := ?_) ?_ ?_
   rotate_left
   ·show Act.put _ (some 3) _ = _
    simp only [Act.put, List.setIfInBounds_toArray, List.set_cons_zero, List.set_cons_succ, i64_w, i32_w]
    rfl
   refine one_ (i := 1) (N := some 7) #[true, true, false, false, false, false, true, false, false] rfl rfl (one_of HT_.out (by kernel_rfl)) (by decide) (fun K hK => ?_)
   refine goes_ Tryd.func77 (by kernel_rfl) rfl #[.int .u64 1] (by rfl) rfl rfl aA ?_
   with_reducible refine (backfillref01_Of.calls 1 t392 t393 _ A2.out).mono ?_
   rintro e w8 ⟨rfl, hb⟩
   refine ⟨_, rfl, ?_⟩; have n0_ := Aside0.mk (blk_below (g := gb390) kA hb); have n1_ := Aside0.mk (blk_below (g := gb391) kA hb); have n2_ := Aside0.mk (blk_below (g := gb397) kA hb); have n3_ := Aside0.mk (below_step bA hb); clear BK390 BK391 BK397 HB; have BK390 := n0_; have BK391 := n1_; have BK397 := n2_; have HB := n3_; clear n0_ n1_ n2_ n3_; (try clear hb)
   refine hK.out _ _ ⟨(blk_cell BK390.out 0).trans rfl, (blk_cell BK390.out 1).trans rfl⟩ (fun hHeld => ?_)
   clear hK K
   refine norm_ (a' := ?_) ?_ ?_
   rotate_left
   ·show Act.put _ (some 7) _ = _
    simp only [Act.put, List.setIfInBounds_toArray, List.set_cons_zero, List.set_cons_succ, i64_w, i32_w]
    rfl
   refine one_ (i := 2) (N := some 8) #[true, true, true, false, false, false, true, false, false] rfl rfl (one_of HT_.out (by kernel_rfl)) (by decide) (fun K hK => ?_)
   refine goes_ Tryd.func80 (by kernel_rfl) rfl #[.agg #[.int .u64 a0_0, .int .u64 a0_1], .agg #[.int .u64 t392, .int .u64 t393]] (by rfl) rfl rfl aA ?_
   with_reducible refine (backfillref01_Add.calls a0_0 a0_1 t392 t393 t394 t395 t396 _ A3.out).mono ?_
   rintro e w9 ⟨rfl, hb⟩
   refine ⟨_, rfl, ?_⟩; have n0_ := Aside0.mk (blk_below (g := gb390) kA hb); have n1_ := Aside0.mk (blk_below (g := gb391) kA hb); have n2_ := Aside0.mk (blk_below (g := gb397) kA hb); have n3_ := Aside0.mk (below_step bA hb); clear BK390 BK391 BK397 HB; have BK390 := n0_; have BK391 := n1_; have BK397 := n2_; have HB := n3_; clear n0_ n1_ n2_ n3_; (try clear hb)
   refine hK.out _ _ ⟨(blk_cell BK390.out 0).trans rfl, (blk_cell BK390.out 1).trans rfl⟩ (fun hHeld => ?_)
   clear hK K
   refine norm_ (a' := ?_) ?_ ?_
   rotate_left
   ·show Act.put _ (some 8) _ = _
    simp only [Act.put, List.setIfInBounds_toArray, List.set_cons_zero, List.set_cons_succ, i64_w, i32_w]
    rfl
   refine pure_ (i := 3) (N := some 5) (v := ?_) (a' := ?_) #[true, true, true, true, false, false, true, false, false] rfl rfl (any_of HT_.out (by kernel_rfl)) (fun _ _ _ h => h) (Or.inl ⟨by rfl, ?_⟩) ?_ ?_
   rotate_left
   ·intro w'
    go_simp; with_reducible rfl
   rotate_left
   ·simp only [Act.put, List.setIfInBounds_toArray, List.set_cons_zero, List.set_cons_succ, i64_w, i32_w]
    rfl
   refine pure_ (i := 4) (N := some 9) (v := ?_) (a' := ?_) #[true, true, true, true, true, false, true, false, false] rfl rfl (any_of HT_.out (by kernel_rfl)) (fun _ _ _ h => h) (Or.inl ⟨by rfl, ?_⟩) ?_ ?_
   rotate_left
   ·intro w'
    go_simp; with_reducible rfl
   rotate_left
   ·simp only [Act.put, List.setIfInBounds_toArray, List.set_cons_zero, List.set_cons_succ, i64_w, i32_w]
    rfl
   refine pure_ (i := 5) (N := some 10) (v := ?_) (a' := ?_) #[true, true, true, true, true, true, true, false, false] rfl rfl (any_of HT_.out (by kernel_rfl)) (fun _ _ _ h => h) (Or.inl ⟨by rfl, ?_⟩) ?_ ?_
   rotate_left
   ·intro w'
    go_simp; with_reducible rfl
   rotate_left
   ·simp only [Act.put, List.setIfInBounds_toArray, List.set_cons_zero, List.set_cons_succ, i64_w, i32_w]
    rfl
   exact norm_ (by simp only [putAll, Act.put, List.setIfInBounds_toArray, List.set_cons_zero, List.set_cons_succ]) (hCont (gb397) _ ⟨hHeld, kA, kA, kA, GW397.out, GE397.out, NB390_397.out, NB397_390.out, NB391_397.out, NB397_391.out, bA⟩)
 rintro gb397 w10 ⟨hS_, h0_, h1_, h2_, h3_, h4_, h5_, h6_, h7_, h8_, h9_⟩
 have n0_ : Aside0 (w10.heap[gb390]? = some (.cells #[.int .u64 a0_0, .int .u64 a0_1] 94 (0, 0))) := ⟨h0_⟩
 have n1_ : Aside0 (w10.heap[gb391]? = some (.cells #[.int .u64 0, .int .u64 0] 94 (0, 0))) := ⟨h1_⟩
 have n2_ : Aside0 (w10.heap[gb397]? = some (.cells #[.int .u64 0, .int .u64 0] 94 (0, 0))) := ⟨h2_⟩
 have n3_ : Aside0 (w.heap.size ≤ gb397) := ⟨h3_⟩
 have n4_ : Aside0 (w.heap.size ≤ gb397) := ⟨h4_⟩
 have n5_ : Aside0 (gb390 ≠ gb397) := ⟨h5_⟩
 have n6_ : Aside0 (gb397 ≠ gb390) := ⟨h6_⟩
 have n7_ : Aside0 (gb391 ≠ gb397) := ⟨h7_⟩
 have n8_ : Aside0 (gb397 ≠ gb391) := ⟨h8_⟩
 have n9_ : Aside0 (Below w.heap.size w w10) := ⟨h9_⟩
 clear BK390 BK391 HB h0_ h1_ h2_ h3_ h4_ h5_ h6_ h7_ h8_ h9_; have BK390 := n0_; have BK391 := n1_; have BK397 := n2_; have GW397 := n3_; have GE397 := n4_; have NB390_397 := n5_; have NB397_390 := n6_; have NB391_397 := n7_; have NB397_391 := n8_; have HB := n9_; clear n0_ n1_ n2_ n3_ n4_ n5_ n6_ n7_ n8_ n9_
 have hHeld : w10.cell? ⟨gb390, 0, none⟩ = some (.int .u64 a0_0) ∧ w10.cell? ⟨gb390, 1, none⟩ = some (.int .u64 a0_1) := hS_
 refine norm_ (a' := ?_) ?_ ?_
 rotate_left
 ·simp only [putAll, Act.put, List.setIfInBounds_toArray, List.set_cons_zero, List.set_cons_succ]
  rfl
 refine one_ (i := 7) (N := none) #[true, true, true, true, true, true, true, true, false] rfl rfl (one_of HT_.out (by kernel_rfl)) (by decide) (fun K hK => ?_)
 have hs11 : w10.cell? ⟨gb397, 0, none⟩ = some (.int .u64 0) := (blk_cell BK397.out 0).trans rfl
 have hfs11 := blk_frozen BK397.out 0
 have hns11_0 := NB390_397.out
 have hns11_1 := NB391_397.out
 have hms11_0 := NB397_390.out
 have hms11_1 := NB397_391.out
 have hs12 : w10.cell? ⟨gb397, 1, none⟩ = some (.int .u64 0) := (blk_cell BK397.out 1).trans rfl
 have hfs12 := blk_frozen BK397.out 1
 have hns12_0 := NB390_397.out
 have hns12_1 := NB391_397.out
 have hms12_0 := NB397_390.out
 have hms12_1 := NB397_391.out
 refine skip_ (w1 := ?_) (by rfl) rfl ?_ ?_
 rotate_left
 ·go_simp
  rfl
 refine hK.out _ _ ⟨((cell_far (p := ⟨gb397, _, none⟩) NB390_397.out _).trans (((cell_far (p := ⟨gb397, _, none⟩) NB390_397.out _).trans (hHeld.1)))), ((cell_far (p := ⟨gb397, _, none⟩) NB390_397.out _).trans (((cell_far (p := ⟨gb397, _, none⟩) NB390_397.out _).trans (hHeld.2))))⟩ (fun hHeld => ?_)
 clear hK K
 refine pure_ (i := 8) (N := some 4) (v := ?_) (a' := ?_) #[true, true, true, true, true, true, true, true, true] rfl rfl (any_of HT_.out (by kernel_rfl)) (fun _ _ _ h => h) (Or.inl ⟨by rfl, ?_⟩) ?_ ?_
 rotate_left
 ·intro w'
  go_simp; with_reducible rfl
 rotate_left
 ·simp only [Act.put, List.setIfInBounds_toArray, List.set_cons_zero, List.set_cons_succ, i64_w, i32_w]
  rfl
 refine done_ (done_of HT_.out (by kernel_rfl)) ?_
 have hnb13 := NB397_390.out
 have hnc13 := NB390_397.out
 have hnb14 := NB397_391.out
 have hnc14 := NB391_397.out
 have hcz15_0 : w10.cell? ⟨gb397, 0, none⟩ = some (.int .u64 0) := (blk_cell BK397.out 0).trans rfl
 have hcz15_1 : w10.cell? ⟨gb397, 1, none⟩ = some (.int .u64 0) := (blk_cell BK397.out 1).trans rfl
 have hfz15_0 := blk_frozen BK397.out 0
 have hfz15_1 := blk_frozen BK397.out 1
 have hnb16 := NB391_390.out
 have hnc16 := NB390_391.out
 have hcz17_0 : w10.cell? ⟨gb391, 0, none⟩ = some (.int .u64 0) := (blk_cell BK391.out 0).trans rfl
 have hcz17_1 : w10.cell? ⟨gb391, 1, none⟩ = some (.int .u64 0) := (blk_cell BK391.out 1).trans rfl
 have hfz17_0 := blk_frozen BK391.out 0
 have hfz17_1 := blk_frozen BK391.out 1
 try go_wp2
 refine bodyPost_ret (results_cell_row rfl _ _ gb391 94 #[.int .u64 t394, .int .u64 t395] (0, 0) _ rfl (by (with_reducible repeat (first | refine blk_drewN ?_ _ | refine blk_drew ?_ | refine blk_alloc ?_ _)); refine blk_put (cs := #[.int .u64 t394, .int .u64 0]) ?_ 1 _ rfl; (with_reducible repeat (first | refine blk_drewN ?_ _ | refine blk_drew ?_ | refine blk_alloc ?_ _)); refine blk_put (cs := #[.int .u64 0, .int .u64 0]) ?_ 0 _ rfl; (with_reducible repeat (first | refine blk_drewN ?_ _ | refine blk_drew ?_ | refine blk_alloc ?_ _)); refine blk_far ?_ NB391_397.out _; (with_reducible repeat (first | refine blk_drewN ?_ _ | refine blk_drew ?_ | refine blk_alloc ?_ _)); refine blk_far ?_ NB391_397.out _; exact kA) Tryd.underlying94 rfl (by kernel_rfl)) rfl ?_
 exact ⟨by first | rfl | (simp [errW_none, errW_some] <;> rfl) | (simp [*, errW_none, errW_some] <;> rfl), bA⟩

end Go.Proofs.YtgjjfnjnjnbfgaaDoor.GLG
