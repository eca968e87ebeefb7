-- Laid by a program of this session (wip/tools/pr.py): contracts and pure functions; Lean checks it.
import Derived.Test.YtbhijfbjdbjpbaaDoorGSHx0
import Derived.Test.YtbhijfbjdbjpbaaDoorGSHx3
import Derived.Test.YtbhijfbjdbjpbaaDoorGSHx9
namespace Go.Proofs.YtbhijfbjdbjpbaaDoor.GSH
open Go.RowKit Go.Proofs.YtbhijfbjdbjpbaaDoorW.PrintWords Go.Proofs.YtbhijfbjdbjpbaaDoorW.PrintLast Go.Proofs.YtbhijfbjdbjpbaaDoorW.PrintMore
attribute [local go_sem] max2_int min2_int max_two min_two max_three min_three max_four min_four   -- for this text's walks alone
set_option linter.unusedVariables false
set_option linter.unusedSimpArgs false

/-! ### wide_Shr: function 45 -/
def wide_Shr.f (a0_0 : Int) (a0_1 : Int) (a1 : Int) : Option (Int × Int) := if a1 ≤ 0 then (some (a0_0, a0_1)) else (if a1 < 64 then (if 0 ≤ a1 then (if 0 ≤ (wrap64 (64 - a1)) then (some (shr .u64 a0_0 a1, Go.bits .or .u64 (shr .u64 a0_1 a1) (shl .u64 a0_0 (wrap64 (64 - a1))))) else (none)) else (none)) else (if a1 < 128 then (if 0 ≤ (wrap64 (a1 - 64)) then (some (0, shr .u64 a0_0 (wrap64 (a1 - 64)))) else (none)) else (some (0, 0))))
def wide_Shr.T4 : Bool × List (List Nat × List Nat) := (true, [([], []), ([0], [0]), ([], []), ([1, 2], [1, 2]), ([], []), ([4], [4]), ([], []), ([5, 6], [5, 6]), ([], []), ([8], [8]), ([], []), ([10], [10]), ([9, 11], [9, 11]), ([7, 12], [7, 12]), ([3, 13], [3, 13]), ([14, 0, 1, 2, 3, 4, 5, 6, 7, 8, 9, 10, 11, 12, 13, 14], [14])])
def wide_Shr.B4 : List Nat := [0, 1, 0, 7, 0, 16, 0, 112, 0, 256, 0, 1024, 3840, 8176, 16383, 32767]
theorem wide_Shr.tab4 : rtab .any (opsOf Tryd.f45 4) = wide_Shr.T4 := by kernel_rfl
theorem wide_Shr.bits4 : waitsOk wide_Shr.T4.2 wide_Shr.B4 = true := by kernel_rfl
set_option maxHeartbeats 8000000 in
set_option maxRecDepth 100000 in
theorem wide_Shr.calls (a0_0 : Int) (a0_1 : Int) (a1 : Int) (r1 : Int) (r2 : Int) (w : World) (h : wide_Shr.f a0_0 a0_1 a1 = some (r1, r2)) :
  Calls Tryd.prog 45 #[.agg #[.int .u64 a0_0, .int .u64 a0_1], .int .i64 a1] w fun e w' => e = .returned (.agg #[.int .u64 r1, .int .u64 r2]) ∧ Below w.heap.size w w' := by
 have hu76 := Tryd.underlying76
 have HB := Aside0.mk (Below.refl w.heap.size w)
 have H : (if a1 ≤ 0 then (some (a0_0, a0_1)) else (if a1 < 64 then (if 0 ≤ a1 then (if 0 ≤ (wrap64 (64 - a1)) then (some (shr .u64 a0_0 a1, Go.bits .or .u64 (shr .u64 a0_1 a1) (shl .u64 a0_0 (wrap64 (64 - a1))))) else (none)) else (none)) else (if a1 < 128 then (if 0 ≤ (wrap64 (a1 - 64)) then (some (0, shr .u64 a0_0 (wrap64 (a1 - 64)))) else (none)) else (some (0, 0))))) = some (r1, r2) := h
 clear h
 by_cases c3 : a1 ≤ 0
 ·rw [if_pos c3] at H
  have c3b0 : decide (a1 ≤ 0) = true := decide_eq_true c3
  clear c3
  simp only [Option.some.injEq, Prod.mk.injEq] at H
  obtain ⟨rfl, rfl⟩ := H
  go_enter Tryd.func45, Tryd.ntmps45
  go_wp2_with (first | ((with_reducible refine gate_dst (N := 2) rfl ?_); refine bxA 2 #[.int .u64 a0_0, .int .u64 a0_1] 76 ?_; intro gb220 hg w4 hbox hb; have n0_ := Aside0.mk (below_step bA hb); have n1_ := Aside0.mk (hbox); have n2_ := Aside0.mk (gwA hg bA); have n3_ := Aside0.mk (gwA hg bA); clear HB; have HB := n0_; have BK220 := n1_; have GW220 := n2_; have GE220 := n3_; clear n0_ n1_ n2_ n3_ hb hbox hg) | ((with_reducible refine gate_dst (N := 4) rfl ?_); refine bxA 4 #[.int .u64 0, .int .u64 0] 76 ?_; intro gb221 hg w5 hbox hb; have n0_ := Aside0.mk (blk_below (g := gb220) kA hb); have n1_ := Aside0.mk (below_step bA hb); have n2_ := Aside0.mk (hbox); have n3_ := Aside0.mk (gwA hg bA); have n4_ := Aside0.mk (gwA hg bA); have n5_ := Aside0.mk (neA (g := gb220) hg kA); have n6_ := Aside0.mk (neB (g := gb220) hg kA); clear BK220 HB; have BK220 := n0_; have HB := n1_; have BK221 := n2_; have GW221 := n3_; have GE221 := n4_; have NB220_221 := n5_; have NB221_220 := n6_; clear n0_ n1_ n2_ n3_ n4_ n5_ n6_ hb hbox hg; have hnb6 := NB220_221.out; have hnc6 := NB221_220.out; have hcz7_0 : w5.cell? ⟨gb220, 0, none⟩ = some (.int .u64 a0_0) := (blk_cell BK220.out 0).trans rfl; have hcz7_1 : w5.cell? ⟨gb220, 1, none⟩ = some (.int .u64 a0_1) := (blk_cell BK220.out 1).trans rfl; have hfz7_0 := blk_frozen BK220.out 0; have hfz7_1 := blk_frozen BK220.out 1; have hcz8_0 : w5.cell? ⟨gb221, 0, none⟩ = some (.int .u64 0) := (blk_cell BK221.out 0).trans rfl; have hcz8_1 : w5.cell? ⟨gb221, 1, none⟩ = some (.int .u64 0) := (blk_cell BK221.out 1).trans rfl; have hfz8_0 := blk_frozen BK221.out 0; have hfz8_1 := blk_frozen BK221.out 1))
  refine bodyPost_ret (results_cell_row rfl _ _ gb221 76 #[.int .u64 a0_0, .int .u64 a0_1] (0, 0) _ rfl (by (with_reducible repeat (first | refine blk_drewN ?_ _ | refine blk_drew ?_ | refine blk_alloc ?_ _)); refine blk_put (cs := #[.int .u64 a0_0, .int .u64 0]) ?_ 1 _ rfl; (with_reducible repeat (first | refine blk_drewN ?_ _ | refine blk_drew ?_ | refine blk_alloc ?_ _)); refine blk_put (cs := #[.int .u64 0, .int .u64 0]) ?_ 0 _ rfl; exact kA) Tryd.underlying76 rfl (by kernel_rfl)) rfl ?_
  exact ⟨by first | rfl | (simp [errW_none, errW_some] <;> rfl) | (simp [*, errW_none, errW_some] <;> rfl), bA⟩
 ·rw [if_neg c3] at H
  have c3b0 : decide (a1 ≤ 0) = false := decide_eq_false c3
  clear c3
  by_cases c9 : a1 < 64
  ·rw [if_pos c9] at H
   have c9b0 : decide (a1 < 64) = true := decide_eq_true c9
   clear c9
   by_cases c10 : 0 ≤ a1
   ·rw [if_pos c10] at H
    have c10b0 := eq_true c10
    have c10b1 : decide (0 ≤ a1) = true := decide_eq_true c10
    clear c10
    obtain ⟨ji11, hji11⟩ : ∃ j_ : Int, (shr .u64 a0_0 a1) = j_ := ⟨_, rfl⟩
    replace H : (if 0 ≤ (wrap64 (64 - a1)) then (some (ji11, Go.bits .or .u64 (shr .u64 a0_1 a1) (shl .u64 a0_0 (wrap64 (64 - a1))))) else (none)) = some (r1, r2) := by first | (rw [hji11] at H; exact H) | (simp only [hji11] at H ⊢; exact H)
    have hji11_ : (a0_0 / 2 ^ min a1.toNat 64) = ji11 := hji11
    have hji11z : a1 ≤ 64 → (a0_0 / 2 ^ a1.toNat) = ji11 := shr_small hji11
    have c12b0 := eq_true (of_decide_eq_true (by first | (with_reducible assumption) | assumption) : 0 ≤ a1)
    obtain ⟨ji13, hji13⟩ : ∃ j_ : Int, (shr .u64 a0_1 a1) = j_ := ⟨_, rfl⟩
    replace H : (if 0 ≤ (wrap64 (64 - a1)) then (some (ji11, Go.bits .or .u64 (ji13) (shl .u64 a0_0 (wrap64 (64 - a1))))) else (none)) = some (r1, r2) := by first | (rw [hji13] at H; exact H) | (simp only [hji13] at H ⊢; exact H)
    have hji13_ : (a0_1 / 2 ^ min a1.toNat 64) = ji13 := hji13
    have hji13z : a1 ≤ 64 → (a0_1 / 2 ^ a1.toNat) = ji13 := shr_small hji13
    obtain ⟨ji14, hji14⟩ : ∃ j_ : Int, (wrap64 (64 - a1)) = j_ := ⟨_, rfl⟩
    replace H : (if 0 ≤ (ji14) then (some (ji11, Go.bits .or .u64 (ji13) (shl .u64 a0_0 (ji14)))) else (none)) = some (r1, r2) := by first | (rw [hji14] at H; exact H) | (simp only [hji14] at H ⊢; exact H)
    have hji14w : (IntKind.i64.wrap (64 - a1)) = ji14 := (i64_w _).trans hji14
    by_cases c15 : 0 ≤ (ji14)
    ·rw [if_pos c15] at H
     have c15b0 := eq_true c15
     have c15b1 : decide (0 ≤ (ji14)) = true := decide_eq_true c15
     clear c15
     obtain ⟨ji16, hji16⟩ : ∃ j_ : Int, (shl .u64 a0_0 (ji14)) = j_ := ⟨_, rfl⟩
     replace H : (some (ji11, Go.bits .or .u64 (ji13) (ji16))) = some (r1, r2) := by first | (rw [hji16] at H; exact H) | (simp only [hji16] at H ⊢; exact H)
     have hji16_ : (IntKind.u64.wrap (a0_0 * 2 ^ min (ji14).toNat 64)) = ji16 := hji16
     have hji16z : (ji14) ≤ 64 → (IntKind.u64.wrap (a0_0 * 2 ^ (ji14).toNat)) = ji16 := shl_small hji16
     simp only [Option.some.injEq, Prod.mk.injEq] at H
     obtain ⟨rfl, rfl⟩ := H
     go_enter Tryd.func45, Tryd.ntmps45
     try go_wp2_with (first | ((with_reducible refine gate_dst (N := 2) rfl ?_); refine bxA 2 #[.int .u64 a0_0, .int .u64 a0_1] 76 ?_; intro gb220 hg w17 hbox hb; have n0_ := Aside0.mk (below_step bA hb); have n1_ := Aside0.mk (hbox); have n2_ := Aside0.mk (gwA hg bA); have n3_ := Aside0.mk (gwA hg bA); clear HB; have HB := n0_; have BK220 := n1_; have GW220 := n2_; have GE220 := n3_; clear n0_ n1_ n2_ n3_ hb hbox hg) | ((with_reducible refine gate_dst (N := 4) rfl ?_); refine bxA 4 #[.int .u64 0, .int .u64 0] 76 ?_; intro gb221 hg w18 hbox hb; have n0_ := Aside0.mk (blk_below (g := gb220) kA hb); have n1_ := Aside0.mk (below_step bA hb); have n2_ := Aside0.mk (hbox); have n3_ := Aside0.mk (gwA hg bA); have n4_ := Aside0.mk (gwA hg bA); have n5_ := Aside0.mk (neA (g := gb220) hg kA); have n6_ := Aside0.mk (neB (g := gb220) hg kA); clear BK220 HB; have BK220 := n0_; have HB := n1_; have BK221 := n2_; have GW221 := n3_; have GE221 := n4_; have NB220_221 := n5_; have NB221_220 := n6_; clear n0_ n1_ n2_ n3_ n4_ n5_ n6_ hb hbox hg))
     have n0_ := Aside0.mk (blk_drew BK220.out); have n1_ := Aside0.mk (blk_drew BK221.out); have n2_ := Aside0.mk (below_drew1 HB.out); clear BK220 BK221 HB; have BK220 := n0_; have BK221 := n1_; have HB := n2_; clear n0_ n1_ n2_
     refine start_ (n := 16) (S := fun w' => w'.cell? ⟨gb220, 0, none⟩ = some (.int .u64 a0_0) ∧ w'.cell? ⟨gb220, 1, none⟩ = some (.int .u64 a0_1)) (ds := []) #[false, false, false, false, false, false, false, false, false, false, false, false, false, false, false, false] (by kernel_rfl) rfl rfl ⟨(blk_cell BK220.out 0).trans rfl, (blk_cell BK220.out 1).trans rfl⟩ (fun hHeld => ?_); refine with_tabW wide_Shr.tab4 wide_Shr.bits4 (fun HT_ HW_ => ?_)
     generalize w18.drew = w19 at BK220 BK221 HB hHeld ⊢
     refine pure_ (i := 0) (N := some 12) (v := ?_) (a' := ?_) #[true, false, false, false, false, false, false, false, false, false, false, false, false, false, false, false] rfl rfl (any_of HT_.out (by kernel_rfl)) (fun _ _ _ h => h) (Or.inl ⟨by rfl, ?_⟩) ?_ ?_
     rotate_left
     ·intro w'
      go_simp; with_reducible rfl
     rotate_left
     ·simp only [Act.put, List.setIfInBounds_toArray, List.set_cons_zero, List.set_cons_succ, i64_w, i32_w]
      rfl
     refine pure_ (i := 2) (N := some 14) (v := ?_) (a' := ?_) #[true, false, true, false, false, false, false, false, false, false, false, false, false, false, false, false] rfl rfl (any_of HT_.out (by kernel_rfl)) (fun _ _ _ h => h) (Or.inl ⟨by rfl, ?_⟩) ?_ ?_
     rotate_left
     ·intro w'
      go_simp; with_reducible rfl
     rotate_left
     ·simp only [Act.put, List.setIfInBounds_toArray, List.set_cons_zero, List.set_cons_succ, i64_w, i32_w]
      rfl
     refine pure_ (i := 4) (N := some 16) (v := ?_) (a' := ?_) #[true, false, true, false, true, false, false, false, false, false, false, false, false, false, false, false] rfl rfl (any_of HT_.out (by kernel_rfl)) (fun _ _ _ h => h) (Or.inl ⟨by rfl, ?_⟩) ?_ ?_
     rotate_left
     ·intro w'
      go_simp; with_reducible rfl
     rotate_left
     ·simp only [Act.put, List.setIfInBounds_toArray, List.set_cons_zero, List.set_cons_succ, i64_w, i32_w]
      rfl
     refine pure_ (i := 6) (N := some 18) (v := ?_) (a' := ?_) #[true, false, true, false, true, false, true, false, false, false, false, false, false, false, false, false] rfl rfl (any_of HT_.out (by kernel_rfl)) (fun _ _ _ h => h) (Or.inl ⟨by rfl, ?_⟩) ?_ ?_
     rotate_left
     ·intro w'
      go_simp; with_reducible rfl
     rotate_left
     ·simp only [Act.put, List.setIfInBounds_toArray, List.set_cons_zero, List.set_cons_succ, i64_w, i32_w]
      rfl
     refine pure_ (i := 8) (N := some 20) (v := ?_) (a' := ?_) #[true, false, true, false, true, false, true, false, true, false, false, false, false, false, false, false] rfl rfl (any_of HT_.out (by kernel_rfl)) (fun _ _ _ h => h) (Or.inl ⟨by rfl, ?_⟩) ?_ ?_
     rotate_left
     ·intro w'
      go_simp; with_reducible rfl
     rotate_left
     ·simp only [Act.put, List.setIfInBounds_toArray, List.set_cons_zero, List.set_cons_succ, i64_w, i32_w]
      rfl
     refine pure_ (i := 10) (N := some 22) (v := ?_) (a' := ?_) #[true, false, true, false, true, false, true, false, true, false, true, false, false, false, false, false] rfl rfl (any_of HT_.out (by kernel_rfl)) (fun _ _ _ h => h) (Or.inl ⟨by rfl, ?_⟩) ?_ ?_
     rotate_left
     ·intro w'
      go_simp; with_reducible rfl
     rotate_left
     ·simp only [Act.put, List.setIfInBounds_toArray, List.set_cons_zero, List.set_cons_succ, i64_w, i32_w]
      rfl
     refine pure_ (i := 11) (N := some 23) (v := ?_) (a' := ?_) #[true, false, true, false, true, false, true, false, true, false, true, true, false, false, false, false] rfl rfl (any_of HT_.out (by kernel_rfl)) (fun _ _ _ h => h) (Or.inl ⟨by rfl, ?_⟩) ?_ ?_
     rotate_left
     ·intro w'
      go_simp; with_reducible rfl
     rotate_left
     ·simp only [Act.put, List.setIfInBounds_toArray, List.set_cons_zero, List.set_cons_succ, i64_w, i32_w]
      rfl
     refine take_ (i := 1) (N := some 13) (v := ?_) (a' := ?_) #[true, true, true, false, true, false, true, false, true, false, true, true, false, false, false, false] rfl rfl (take_ofW HT_.out HW_.out (by kernel_rfl)) (fun _ _ _ h => h) (Or.inl ⟨by rfl, ?_⟩) hHeld ?_ ?_
     rotate_left
     ·rintro w' ⟨s0, s1⟩
      go_simp; with_reducible rfl
     rotate_left
     ·simp only [Act.put, List.setIfInBounds_toArray, List.set_cons_zero, List.set_cons_succ, i64_w, i32_w]
      rfl
     refine pure_ (i := 3) (N := some 15) (v := ?_) (a' := ?_) #[true, true, true, true, true, false, true, false, true, false, true, true, false, false, false, false] rfl rfl (any_of HT_.out (by kernel_rfl)) (fun _ _ _ h => h) (Or.inl ⟨by rfl, ?_⟩) ?_ ?_
     rotate_left
     ·intro w'
      go_simp; with_reducible rfl
     rotate_left
     ·simp only [Act.put, List.setIfInBounds_toArray, List.set_cons_zero, List.set_cons_succ, i64_w, i32_w]
      rfl
     refine take_ (i := 5) (N := some 17) (v := ?_) (a' := ?_) #[true, true, true, true, true, true, true, false, true, false, true, true, false, false, false, false] rfl rfl (take_ofW HT_.out HW_.out (by kernel_rfl)) (fun _ _ _ h => h) (Or.inl ⟨by rfl, ?_⟩) hHeld ?_ ?_
     rotate_left
     ·rintro w' ⟨s0, s1⟩
      go_simp; with_reducible rfl
     rotate_left
     ·simp only [Act.put, List.setIfInBounds_toArray, List.set_cons_zero, List.set_cons_succ, i64_w, i32_w]
      rfl
     refine pure_ (i := 7) (N := some 19) (v := ?_) (a' := ?_) #[true, true, true, true, true, true, true, true, true, false, true, true, false, false, false, false] rfl rfl (any_of HT_.out (by kernel_rfl)) (fun _ _ _ h => h) (Or.inl ⟨by rfl, ?_⟩) ?_ ?_
     rotate_left
     ·intro w'
      go_simp; with_reducible rfl
     rotate_left
     ·simp only [Act.put, List.setIfInBounds_toArray, List.set_cons_zero, List.set_cons_succ, i64_w, i32_w]
      rfl
     refine take_ (i := 9) (N := some 21) (v := ?_) (a' := ?_) #[true, true, true, true, true, true, true, true, true, true, true, true, false, false, false, false] rfl rfl (take_ofW HT_.out HW_.out (by kernel_rfl)) (fun _ _ _ h => h) (Or.inl ⟨by rfl, ?_⟩) hHeld ?_ ?_
     rotate_left
     ·rintro w' ⟨s0, s1⟩
      go_simp; with_reducible rfl
     rotate_left
     ·simp only [Act.put, List.setIfInBounds_toArray, List.set_cons_zero, List.set_cons_succ, i64_w, i32_w]
      rfl
     refine pure_ (i := 12) (N := some 24) (v := ?_) (a' := ?_) #[true, true, true, true, true, true, true, true, true, true, true, true, true, false, false, false] rfl rfl (any_of HT_.out (by kernel_rfl)) (fun _ _ _ h => h) (Or.inl ⟨by rfl, ?_⟩) ?_ ?_
     rotate_left
     ·intro w'
      go_simp; with_reducible rfl
     rotate_left
     ·simp only [Act.put, List.setIfInBounds_toArray, List.set_cons_zero, List.set_cons_succ, i64_w, i32_w]
      rfl
     refine pure_ (i := 13) (N := some 25) (v := ?_) (a' := ?_) #[true, true, true, true, true, true, true, true, true, true, true, true, true, true, false, false] rfl rfl (any_of HT_.out (by kernel_rfl)) (fun _ _ _ h => h) (Or.inl ⟨by rfl, ?_⟩) ?_ ?_
     rotate_left
     ·intro w'
      go_simp; with_reducible rfl
     rotate_left
     ·simp only [Act.put, List.setIfInBounds_toArray, List.set_cons_zero, List.set_cons_succ, i64_w, i32_w]
      rfl
     refine pure_ (i := 14) (N := some 26) (v := ?_) (a' := ?_) #[true, true, true, true, true, true, true, true, true, true, true, true, true, true, true, false] rfl rfl (any_of HT_.out (by kernel_rfl)) (fun _ _ _ h => h) (Or.inl ⟨by rfl, ?_⟩) ?_ ?_
     rotate_left
     ·intro w'
      go_simp; with_reducible rfl
     rotate_left
     ·simp only [Act.put, List.setIfInBounds_toArray, List.set_cons_zero, List.set_cons_succ, i64_w, i32_w]
      rfl
     refine one_ (i := 15) (N := none) #[true, true, true, true, true, true, true, true, true, true, true, true, true, true, true, true] rfl rfl (one_of HT_.out (by kernel_rfl)) (by decide) (fun K hK => ?_)
     have hs20 : w19.cell? ⟨gb221, 0, none⟩ = some (.int .u64 0) := (blk_cell BK221.out 0).trans rfl
     have hfs20 := blk_frozen BK221.out 0
     have hns20_0 := NB220_221.out
     have hms20_0 := NB221_220.out
     have hs21 : w19.cell? ⟨gb221, 1, none⟩ = some (.int .u64 0) := (blk_cell BK221.out 1).trans rfl
     have hfs21 := blk_frozen BK221.out 1
     have hns21_0 := NB220_221.out
     have hms21_0 := NB221_220.out
     refine skip_ (w1 := ?_) (by rfl) rfl ?_ ?_
     rotate_left
     ·go_simp
      rfl
     refine hK.out _ _ ⟨((cell_far (p := ⟨gb221, _, none⟩) NB220_221.out _).trans (((cell_far (p := ⟨gb221, _, none⟩) NB220_221.out _).trans (hHeld.1)))), ((cell_far (p := ⟨gb221, _, none⟩) NB220_221.out _).trans (((cell_far (p := ⟨gb221, _, none⟩) NB220_221.out _).trans (hHeld.2))))⟩ (fun hHeld => ?_)
     clear hK K
     refine done_ (done_of HT_.out (by kernel_rfl)) ?_
     try go_wp2
     refine bodyPost_ret (results_cell_row rfl _ _ gb221 76 #[.int .u64 ji11, .int .u64 (Go.bits .or .u64 (ji13) (ji16))] (0, 0) _ rfl (by (with_reducible repeat (first | refine blk_drewN ?_ _ | refine blk_drew ?_ | refine blk_alloc ?_ _)); refine blk_put (cs := #[.int .u64 ji11, .int .u64 0]) ?_ 1 _ rfl; (with_reducible repeat (first | refine blk_drewN ?_ _ | refine blk_drew ?_ | refine blk_alloc ?_ _)); refine blk_put (cs := #[.int .u64 0, .int .u64 0]) ?_ 0 _ rfl; exact kA) Tryd.underlying76 rfl (by kernel_rfl)) rfl ?_
     exact ⟨by first | rfl | (simp [errW_none, errW_some] <;> rfl) | (simp only [← hji11, ← hji13, ← hji14, ← hji16]; first | rfl | (simp [errW_none, errW_some] <;> rfl)) | (simp [*, errW_none, errW_some] <;> rfl), bA⟩
    ·rw [if_neg c15] at H
     exact absurd H (by simp)
   ·rw [if_neg c10] at H
    exact absurd H (by simp)
  ·rw [if_neg c9] at H
   have c9b0 : decide (a1 < 64) = false := decide_eq_false c9
   clear c9
   by_cases c22 : a1 < 128
   ·rw [if_pos c22] at H
    have c22b0 : decide (a1 < 128) = true := decide_eq_true c22
    clear c22
    obtain ⟨ji23, hji23⟩ : ∃ j_ : Int, (wrap64 (a1 - 64)) = j_ := ⟨_, rfl⟩
    replace H : (if 0 ≤ (ji23) then (some (0, shr .u64 a0_0 (ji23))) else (none)) = some (r1, r2) := by first | (rw [hji23] at H; exact H) | (simp only [hji23] at H ⊢; exact H)
    have hji23w : (IntKind.i64.wrap (a1 - 64)) = ji23 := (i64_w _).trans hji23
    by_cases c24 : 0 ≤ (ji23)
    ·rw [if_pos c24] at H
     have c24b0 := eq_true c24
     have c24b1 : decide (0 ≤ (ji23)) = true := decide_eq_true c24
     clear c24
     obtain ⟨ji25, hji25⟩ : ∃ j_ : Int, (shr .u64 a0_0 (ji23)) = j_ := ⟨_, rfl⟩
     replace H : (some (0, ji25)) = some (r1, r2) := by first | (rw [hji25] at H; exact H) | (simp only [hji25] at H ⊢; exact H)
     have hji25_ : (a0_0 / 2 ^ min (ji23).toNat 64) = ji25 := hji25
     have hji25z : (ji23) ≤ 64 → (a0_0 / 2 ^ (ji23).toNat) = ji25 := shr_small hji25
     simp only [Option.some.injEq, Prod.mk.injEq] at H
     obtain ⟨rfl, rfl⟩ := H
     go_enter Tryd.func45, Tryd.ntmps45
     go_wp2_with (first | ((with_reducible refine gate_dst (N := 2) rfl ?_); refine bxA 2 #[.int .u64 a0_0, .int .u64 a0_1] 76 ?_; intro gb220 hg w26 hbox hb; have n0_ := Aside0.mk (below_step bA hb); have n1_ := Aside0.mk (hbox); have n2_ := Aside0.mk (gwA hg bA); have n3_ := Aside0.mk (gwA hg bA); clear HB; have HB := n0_; have BK220 := n1_; have GW220 := n2_; have GE220 := n3_; clear n0_ n1_ n2_ n3_ hb hbox hg) | ((with_reducible refine gate_dst (N := 4) rfl ?_); refine bxA 4 #[.int .u64 0, .int .u64 0] 76 ?_; intro gb221 hg w27 hbox hb; have n0_ := Aside0.mk (blk_below (g := gb220) kA hb); have n1_ := Aside0.mk (below_step bA hb); have n2_ := Aside0.mk (hbox); have n3_ := Aside0.mk (gwA hg bA); have n4_ := Aside0.mk (gwA hg bA); have n5_ := Aside0.mk (neA (g := gb220) hg kA); have n6_ := Aside0.mk (neB (g := gb220) hg kA); clear BK220 HB; have BK220 := n0_; have HB := n1_; have BK221 := n2_; have GW221 := n3_; have GE221 := n4_; have NB220_221 := n5_; have NB221_220 := n6_; clear n0_ n1_ n2_ n3_ n4_ n5_ n6_ hb hbox hg; have hnb28 := NB220_221.out; have hnc28 := NB221_220.out; have hcz29_0 : w27.cell? ⟨gb220, 0, none⟩ = some (.int .u64 a0_0) := (blk_cell BK220.out 0).trans rfl; have hcz29_1 : w27.cell? ⟨gb220, 1, none⟩ = some (.int .u64 a0_1) := (blk_cell BK220.out 1).trans rfl; have hfz29_0 := blk_frozen BK220.out 0; have hfz29_1 := blk_frozen BK220.out 1; have hcz30_0 : w27.cell? ⟨gb221, 0, none⟩ = some (.int .u64 0) := (blk_cell BK221.out 0).trans rfl; have hcz30_1 : w27.cell? ⟨gb221, 1, none⟩ = some (.int .u64 0) := (blk_cell BK221.out 1).trans rfl; have hfz30_0 := blk_frozen BK221.out 0; have hfz30_1 := blk_frozen BK221.out 1))
     refine bodyPost_ret (results_cell_row rfl _ _ gb221 76 #[.int .u64 0, .int .u64 ji25] (0, 0) _ rfl (by (with_reducible repeat (first | refine blk_drewN ?_ _ | refine blk_drew ?_ | refine blk_alloc ?_ _)); refine blk_put (cs := #[.int .u64 0, .int .u64 0]) ?_ 1 _ rfl; (with_reducible repeat (first | refine blk_drewN ?_ _ | refine blk_drew ?_ | refine blk_alloc ?_ _)); refine blk_put (cs := #[.int .u64 0, .int .u64 0]) ?_ 0 _ rfl; exact kA) Tryd.underlying76 rfl (by kernel_rfl)) rfl ?_
     exact ⟨by first | rfl | (simp [errW_none, errW_some] <;> rfl) | (simp only [← hji23, ← hji25]; first | rfl | (simp [errW_none, errW_some] <;> rfl)) | (simp [*, errW_none, errW_some] <;> rfl), bA⟩
    ·rw [if_neg c24] at H
     exact absurd H (by simp)
   ·rw [if_neg c22] at H
    have c22b0 : decide (a1 < 128) = false := decide_eq_false c22
    clear c22
    simp only [Option.some.injEq, Prod.mk.injEq] at H
    obtain ⟨rfl, rfl⟩ := H
    go_enter Tryd.func45, Tryd.ntmps45
    go_wp2_with (first | ((with_reducible refine gate_dst (N := 2) rfl ?_); refine bxA 2 #[.int .u64 a0_0, .int .u64 a0_1] 76 ?_; intro gb220 hg w31 hbox hb; have n0_ := Aside0.mk (below_step bA hb); have n1_ := Aside0.mk (hbox); have n2_ := Aside0.mk (gwA hg bA); have n3_ := Aside0.mk (gwA hg bA); clear HB; have HB := n0_; have BK220 := n1_; have GW220 := n2_; have GE220 := n3_; clear n0_ n1_ n2_ n3_ hb hbox hg) | ((with_reducible refine gate_dst (N := 4) rfl ?_); refine bxA 4 #[.int .u64 0, .int .u64 0] 76 ?_; intro gb221 hg w32 hbox hb; have n0_ := Aside0.mk (blk_below (g := gb220) kA hb); have n1_ := Aside0.mk (below_step bA hb); have n2_ := Aside0.mk (hbox); have n3_ := Aside0.mk (gwA hg bA); have n4_ := Aside0.mk (gwA hg bA); have n5_ := Aside0.mk (neA (g := gb220) hg kA); have n6_ := Aside0.mk (neB (g := gb220) hg kA); clear BK220 HB; have BK220 := n0_; have HB := n1_; have BK221 := n2_; have GW221 := n3_; have GE221 := n4_; have NB220_221 := n5_; have NB221_220 := n6_; clear n0_ n1_ n2_ n3_ n4_ n5_ n6_ hb hbox hg; have hnb33 := NB221_220.out; have hnc33 := NB220_221.out; have hcz34_0 : w32.cell? ⟨gb221, 0, none⟩ = some (.int .u64 0) := (blk_cell BK221.out 0).trans rfl; have hcz34_1 : w32.cell? ⟨gb221, 1, none⟩ = some (.int .u64 0) := (blk_cell BK221.out 1).trans rfl; have hfz34_0 := blk_frozen BK221.out 0; have hfz34_1 := blk_frozen BK221.out 1))
    refine bodyPost_ret (results_cell_row rfl _ _ gb221 76 #[.int .u64 0, .int .u64 0] (0, 0) _ rfl (by (with_reducible repeat (first | refine blk_drewN ?_ _ | refine blk_drew ?_ | refine blk_alloc ?_ _)); refine blk_put (cs := #[.int .u64 0, .int .u64 0]) ?_ 1 _ rfl; (with_reducible repeat (first | refine blk_drewN ?_ _ | refine blk_drew ?_ | refine blk_alloc ?_ _)); refine blk_put (cs := #[.int .u64 0, .int .u64 0]) ?_ 0 _ rfl; exact kA) Tryd.underlying76 rfl (by kernel_rfl)) rfl ?_
    exact ⟨by first | rfl | (simp [errW_none, errW_some] <;> rfl) | (simp [*, errW_none, errW_some] <;> rfl), bA⟩

/-! ### share_exponent: function 24 -/
mutual
def share_exponent.j0 : Nat → Int → Int → Int → Option (Int)
 | 0, _, _, _ => none
 | k + 1, x0, x1, x2 => (wide_Mul.f x0 x2).bind fun bt227 => ((wide_Div.f k bt227.1 bt227.2 x1).bind fun bt229 => ((wide_Shr.f bt229.1 bt229.2.1 31).bind fun bt234 => (if bt229.2.2.1 > 0 then (share_exponent.j1 k true bt234.1 bt234.2) else (share_exponent.j1 k (decide ((IntKind.u64.wrap (bt229.2.1 * 8589934592)) > 0)) bt234.1 bt234.2))))
def share_exponent.j1 : Nat → Bool → Int → Int → Option (Int)
 | 0, _, _, _ => none
 | k + 1, x35, x237000, x237001 => if x35 = true then ((wide_Of.f 1).bind fun bt237 => ((wide_Add.f x237000 x237001 bt237.1 bt237.2).bind fun bt239 => (if bt239.1 > 0 then (some 18446744073709551615) else (some bt239.2.1)))) else (if x237000 > 0 then (some 18446744073709551615) else (some x237001))
end
def share_exponent.f (k : Nat) (a0 : Int) (a1 : Int) (a2 : Int) : Option (Int) := (wide_Mul.f a1 4096).bind fun bt222 => ((wide_Of.f a2).bind fun bt224 => ((wide_Cmp.f bt222.1 bt222.2 bt224.1 bt224.2).bind fun t226 => (if t226 < 0 then (share_exponent.j0 k a0 1 4096) else (share_exponent.j0 k a0 a1 a2))))
theorem share_exponent.mono_l : ∀ k, (∀ y0 y1 y2, LeO (share_exponent.j0 k y0 y1 y2) (share_exponent.j0 (k + 1) y0 y1 y2)) ∧ (∀ y0 y1 y2, LeO (share_exponent.j1 k y0 y1 y2) (share_exponent.j1 (k + 1) y0 y1 y2))
 | 0 => ⟨fun _ _ _ r h => by simp [share_exponent.j0] at h, fun _ _ _ r h => by simp [share_exponent.j1] at h⟩
 | k + 1 => by
  obtain ⟨ih0, ih1⟩ := share_exponent.mono_l k
  refine ⟨?_, ?_⟩
  ·intro y0 y1 y2
   unfold share_exponent.j0
   repeat' first
   | (with_reducible exact ih0 _ _ _)
   | (with_reducible exact ih1 _ _ _)
   | (with_reducible exact wide_Div.mono _ _ _ _)
   | (with_reducible exact LeO.refl _)
   | (with_reducible exact LeO.none _)
   | (with_reducible refine LeO.ite ?_ ?_)
   | (with_reducible refine LeO.bind ?_ (fun _ => ?_))
   | exact ih0 _ _ _
   | exact ih1 _ _ _
   | exact wide_Div.mono _ _ _ _
   | exact LeO.none _
   | refine LeO.ite ?_ ?_
   | refine LeO.bind ?_ (fun _ => ?_)
  ·intro y0 y1 y2
   unfold share_exponent.j1
   repeat' first
   | (with_reducible exact ih0 _ _ _)
   | (with_reducible exact ih1 _ _ _)
   | (with_reducible exact wide_Div.mono _ _ _ _)
   | (with_reducible exact LeO.refl _)
   | (with_reducible exact LeO.none _)
   | (with_reducible refine LeO.ite ?_ ?_)
   | (with_reducible refine LeO.bind ?_ (fun _ => ?_))
   | exact ih0 _ _ _
   | exact ih1 _ _ _
   | exact wide_Div.mono _ _ _ _
   | exact LeO.none _
   | refine LeO.ite ?_ ?_
   | refine LeO.bind ?_ (fun _ => ?_)
theorem share_exponent.mono : ∀ a0 a1 a2 k, LeO (share_exponent.f k a0 a1 a2) (share_exponent.f (k + 1) a0 a1 a2) := by
 intro a0 a1 a2 k
 obtain ⟨ih0, ih1⟩ := share_exponent.mono_l k
 unfold share_exponent.f
 repeat' first
   | (with_reducible exact ih0 _ _ _)
   | (with_reducible exact ih1 _ _ _)
   | (with_reducible exact wide_Div.mono _ _ _ _)
   | (with_reducible exact LeO.refl _)
   | (with_reducible exact LeO.none _)
   | (with_reducible refine LeO.ite ?_ ?_)
   | (with_reducible refine LeO.bind ?_ (fun _ => ?_))
   | exact ih0 _ _ _
   | exact ih1 _ _ _
   | exact wide_Div.mono _ _ _ _
   | exact LeO.none _
   | refine LeO.ite ?_ ?_
   | refine LeO.bind ?_ (fun _ => ?_)
set_option maxHeartbeats 8000000 in
set_option maxRecDepth 100000 in
theorem share_exponent.calls (k : Nat) (a0 : Int) (a1 : Int) (a2 : Int) (r : Int) (w : World) (h : share_exponent.f k a0 a1 a2 = some r) :
  Calls Tryd.prog 24 #[.int .u64 a0, .int .u64 a1, .int .u64 a2] w fun e w' => e = .returned (.int .u64 r) ∧ Below w.heap.size w w' := by
 have hu76 := Tryd.underlying76
 have HB := Aside0.mk (Below.refl w.heap.size w)
 have H : ((wide_Mul.f a1 4096).bind fun bt222 => ((wide_Of.f a2).bind fun bt224 => ((wide_Cmp.f bt222.1 bt222.2 bt224.1 bt224.2).bind fun t226 => (if t226 < 0 then (share_exponent.j0 k a0 1 4096) else (share_exponent.j0 k a0 a1 a2))))) = some r := h
 clear h; replace H := Option.bind_eq_some_iff.mp H; obtain ⟨⟨t222, t223⟩, A40, H⟩ := H; replace H : ((wide_Of.f a2).bind fun bt224 => ((wide_Cmp.f t222 t223 bt224.1 bt224.2).bind fun t226 => (if t226 < 0 then (share_exponent.j0 k a0 1 4096) else (share_exponent.j0 k a0 a1 a2)))) = some r := H; have A4 := Aside0.mk A40; clear A40; replace H := Option.bind_eq_some_iff.mp H; obtain ⟨⟨t224, t225⟩, A50, H⟩ := H; replace H : ((wide_Cmp.f t222 t223 t224 t225).bind fun t226 => (if t226 < 0 then (share_exponent.j0 k a0 1 4096) else (share_exponent.j0 k a0 a1 a2))) = some r := H; have A5 := Aside0.mk A50; clear A50; replace H := Option.bind_eq_some_iff.mp H; obtain ⟨t226, A60, H⟩ := H; replace H : (if t226 < 0 then (share_exponent.j0 k a0 1 4096) else (share_exponent.j0 k a0 a1 a2)) = some r := H; have A6 := Aside0.mk A60; clear A60
 have HC7 := Aside0.mk H
 clear H
 go_enter Tryd.func24, Tryd.ntmps24
 go_upto_if 16 with (first | ((with_reducible refine gate_callee (f := 42) rfl ?_); refine goesL_ (some 12) rfl rfl Tryd.func42 (by kernel_rfl) rfl #[.int .u64 a1, .int .u64 4096] rfl aA ?_; (with_reducible refine (wide_Mul.calls a1 4096 t222 t223 _ A4.out).mono ?_); rintro e w8 ⟨rfl, hb⟩; refine ⟨_, rfl, ?_⟩; have n0_ := Aside0.mk (below_step bA hb); clear HB; have HB := n0_; clear n0_; (try clear hb)) | ((with_reducible refine gate_callee (f := 44) rfl ?_); refine goesL_ (some 14) rfl rfl Tryd.func44 (by kernel_rfl) rfl #[.int .u64 a2] rfl aA ?_; (with_reducible refine (wide_Of.calls a2 t224 t225 _ A5.out).mono ?_); rintro e w9 ⟨rfl, hb⟩; refine ⟨_, rfl, ?_⟩; have n0_ := Aside0.mk (below_step bA hb); clear HB; have HB := n0_; clear n0_; (try clear hb)) | ((with_reducible refine gate_callee (f := 43) rfl ?_); refine goesL_ (some 15) rfl rfl Tryd.func43 (by kernel_rfl) rfl #[.agg #[.int .u64 t222, .int .u64 t223], .agg #[.int .u64 t224, .int .u64 t225]] rfl aA ?_; (with_reducible refine (wide_Cmp.calls t222 t223 t224 t225 t226 _ A6.out).mono ?_); rintro e w10 ⟨rfl, hb⟩; refine ⟨_, rfl, ?_⟩; have n0_ := Aside0.mk (below_step bA hb); clear HB; have HB := n0_; clear n0_; (try clear hb)))
 (try simp only [Act.put, List.setIfInBounds_toArray, List.set_cons_zero, List.set_cons_succ])
 go_cut [1, 2] (fun v1 v2 wc => ∃ (kq : Nat) (x1_6 : Int) (x2_6 : Int), v1 = .int .u64 x1_6 ∧ v2 = .int .u64 x2_6 ∧ Aside0 (share_exponent.j0 kq a0 x1_6 x2_6 = some r) ∧ Aside0 (kq ≤ k) ∧ Aside0 (Below w.heap.size w wc))
 case first =>
  have H := HC7.out
  clear HC7
  by_cases c11 : t226 < 0
  ·rw [if_pos c11] at H
   have c11b0 : decide (t226 < 0) = true := decide_eq_true c11
   clear c11
   (first | rw [c11b0] | (simp only [i64_w, i32_w]; rw [c11b0]) | skip)
   have H' := Aside0.mk H
   clear H
   go_wp2
   go_meet
   case rel => exact ⟨_, (1), (4096), (by first | rfl | (simp; done) | (simp [*]; done)), (by first | rfl | (simp; done) | (simp [*]; done)), H', ⟨by first | omega | exact Nat.le_refl _⟩, ⟨bA⟩⟩
  ·rw [if_neg c11] at H
   have c11b0 : decide (t226 < 0) = false := decide_eq_false c11
   clear c11
   (first | rw [c11b0] | (simp only [i64_w, i32_w]; rw [c11b0]) | skip)
   have H' := Aside0.mk H
   clear H
   go_wp2
   go_meet
   case rel => exact ⟨_, (a1), (a2), (by first | rfl | (simp; done) | (simp [*]; done)), (by first | rfl | (simp; done) | (simp [*]; done)), H', ⟨by first | omega | exact Nat.le_refl _⟩, ⟨bA⟩⟩
 case rest =>
  clear HC7
  try clear c1
  try clear c2
  try clear p2
  try clear c4
  try clear c11
  try clear c11b0
  obtain ⟨kq, x1_6, x2_6, rfl, rfl, HA, HJ6, HB⟩ := hcut
  cases kq with
  | zero => exact absurd HA.out (by simp [share_exponent.j0])
  | succ kj6 =>
   have H := HA.out
   clear HA
   simp only [share_exponent.j0] at H
   replace H := Option.bind_eq_some_iff.mp H; obtain ⟨⟨t227, t228⟩, A120, H⟩ := H; replace H : ((wide_Div.f kj6 t227 t228 x1_6).bind fun bt229 => ((wide_Shr.f bt229.1 bt229.2.1 31).bind fun bt234 => (if bt229.2.2.1 > 0 then (share_exponent.j1 kj6 true bt234.1 bt234.2) else (share_exponent.j1 kj6 (decide ((IntKind.u64.wrap (bt229.2.1 * 8589934592)) > 0)) bt234.1 bt234.2)))) = some r := H; have A12 := Aside0.mk A120; clear A120; replace H := Option.bind_eq_some_iff.mp H; obtain ⟨⟨t229, t230, t231, t232⟩, A130, H⟩ := H; replace H : ((wide_Shr.f t229 t230 31).bind fun bt234 => (if t231 > 0 then (share_exponent.j1 kj6 true bt234.1 bt234.2) else (share_exponent.j1 kj6 (decide ((IntKind.u64.wrap (t230 * 8589934592)) > 0)) bt234.1 bt234.2))) = some r := H; have A13 := Aside0.mk A130; clear A130; replace H := Option.bind_eq_some_iff.mp H; obtain ⟨⟨t234, t235⟩, A140, H⟩ := H; replace H : (if t231 > 0 then (share_exponent.j1 kj6 true t234 t235) else (share_exponent.j1 kj6 (decide ((IntKind.u64.wrap (t230 * 8589934592)) > 0)) t234 t235)) = some r := H; have A14 := Aside0.mk A140; clear A140
   have HC15 := Aside0.mk H
   clear H
   go_upto_region 5 with (first | ((with_reducible refine gate_callee (f := 42) rfl ?_); refine goesL_ (some 20) rfl rfl Tryd.func42 (by kernel_rfl) rfl #[.int .u64 a0, .int .u64 x2_6] rfl aA ?_; (with_reducible refine (wide_Mul.calls a0 x2_6 t227 t228 _ A12.out).mono ?_); rintro e w16 ⟨rfl, hb⟩; refine ⟨_, rfl, ?_⟩; have n0_ := Aside0.mk (below_step bA hb); clear HB; have HB := n0_; clear n0_; (try clear hb)) | ((with_reducible refine gate_callee (f := 41) rfl ?_); refine goesL_ (some 22) rfl rfl Tryd.func41 (by kernel_rfl) rfl #[.agg #[.int .u64 t227, .int .u64 t228], .int .u64 x1_6] rfl aA ?_; (with_reducible refine (wide_Div.calls kj6 t227 t228 x1_6 t229 t230 t231 t232 _ A13.out).mono ?_); rintro e w17 ⟨rfl, hb⟩; refine ⟨_, rfl, ?_⟩; have n0_ := Aside0.mk (below_step bA hb); clear HB; have HB := n0_; clear n0_; (try clear hb)) | ((with_reducible refine gate_dst (N := 7) rfl ?_); refine bxA 7 #[.int .u64 0, .int .u64 0] 76 ?_; intro gb233 hg w18 hbox hb; have n0_ := Aside0.mk (below_step bA hb); have n1_ := Aside0.mk (hbox); have n2_ := Aside0.mk (gwA hg bA); have n3_ := Aside0.mk (gwA hg bA); clear HB; have HB := n0_; have BK233 := n1_; have GW233 := n2_; have GE233 := n3_; clear n0_ n1_ n2_ n3_ hb hbox hg; have hcz19_0 : w18.cell? ⟨gb233, 0, none⟩ = some (.int .u64 0) := (blk_cell BK233.out 0).trans rfl; have hcz19_1 : w18.cell? ⟨gb233, 1, none⟩ = some (.int .u64 0) := (blk_cell BK233.out 1).trans rfl; have hfz19_0 := blk_frozen BK233.out 0; have hfz19_1 := blk_frozen BK233.out 1) | ((with_reducible refine gate_callee (f := 45) rfl ?_); refine goesL_ (some 27) rfl rfl Tryd.func45 (by kernel_rfl) rfl #[.agg #[.int .u64 t229, .int .u64 t230], .int .i64 31] rfl aA ?_; (with_reducible refine (wide_Shr.calls t229 t230 31 t234 t235 _ A14.out).mono ?_); rintro e w20 ⟨rfl, hb⟩; refine ⟨_, rfl, ?_⟩; have n0_ := Aside0.mk (blk_below (g := gb233) (o := .cells #[.int .u64 t229, .int .u64 t230] 76 (0, 0)) (by (with_reducible repeat (first | refine blk_drewN ?_ _ | refine blk_drew ?_ | refine blk_alloc ?_ _)); refine blk_put (cs := #[.int .u64 t229, .int .u64 0]) ?_ 1 _ rfl; (with_reducible repeat (first | refine blk_drewN ?_ _ | refine blk_drew ?_ | refine blk_alloc ?_ _)); refine blk_put (cs := #[.int .u64 0, .int .u64 0]) ?_ 0 _ rfl; exact kA) hb); have n1_ := Aside0.mk (below_step bA hb); clear BK233 HB; have BK233 := n0_; have HB := n1_; clear n0_ n1_; (try clear hb)) | ((with_reducible refine gate_dst (N := 10) rfl ?_); refine bxA 10 #[.int .u64 0, .int .u64 0] 76 ?_; intro gb236 hg w21 hbox hb; have n0_ := Aside0.mk (blk_below (g := gb233) kA hb); have n1_ := Aside0.mk (below_step bA hb); have n2_ := Aside0.mk (hbox); have n3_ := Aside0.mk (gwA hg bA); have n4_ := Aside0.mk (gwA hg bA); have n5_ := Aside0.mk (neA (g := gb233) hg kA); have n6_ := Aside0.mk (neB (g := gb233) hg kA); clear BK233 HB; have BK233 := n0_; have HB := n1_; have BK236 := n2_; have GW236 := n3_; have GE236 := n4_; have NB233_236 := n5_; have NB236_233 := n6_; clear n0_ n1_ n2_ n3_ n4_ n5_ n6_ hb hbox hg; have hnb22 := NB236_233.out; have hnc22 := NB233_236.out; have hcz23_0 : w21.cell? ⟨gb236, 0, none⟩ = some (.int .u64 0) := (blk_cell BK236.out 0).trans rfl; have hcz23_1 : w21.cell? ⟨gb236, 1, none⟩ = some (.int .u64 0) := (blk_cell BK236.out 1).trans rfl; have hfz23_0 := blk_frozen BK236.out 0; have hfz23_1 := blk_frozen BK236.out 1))
   (try simp only [Act.put, List.setIfInBounds_toArray, List.set_cons_zero, List.set_cons_succ])
   go_cut [35] (fun v35 wc => ∃ (kq : Nat) (x35_14 : Bool), v35 = .bool x35_14 ∧ Aside0 (share_exponent.j1 kq x35_14 t234 t235 = some r) ∧ Aside0 (kq ≤ kj6) ∧ Aside0 (wc.heap[gb233]? = some (.cells #[.int .u64 t229, .int .u64 t230] 76 (0, 0))) ∧ Aside0 (wc.heap[gb236]? = some (.cells #[.int .u64 t234, .int .u64 t235] 76 (0, 0))) ∧ Aside0 (Below w.heap.size w wc))
   case first =>
    have H := HC15.out
    clear HC15
    by_cases c24 : t231 > 0
    ·rw [if_pos c24] at H
     have c24b0 : decide (0 < t231) = true := decide_eq_true c24
     clear c24
     (first | rw [c24b0] | (simp only [i64_w, i32_w]; rw [c24b0]) | skip)
     have H' := Aside0.mk H
     clear H
     go_wp2
     go_meet
     case rel => exact ⟨_, (true), (by first | rfl | (simp; done) | (simp [*]; done)), H', ⟨by have := HJ6.out; first | omega | exact Nat.le_refl _⟩, ⟨by (with_reducible repeat (first | refine blk_drewN ?_ _ | refine blk_drew ?_ | refine blk_alloc ?_ _)); refine blk_far ?_ NB233_236.out _; (with_reducible repeat (first | refine blk_drewN ?_ _ | refine blk_drew ?_ | refine blk_alloc ?_ _)); refine blk_far ?_ NB233_236.out _; exact kA⟩, ⟨by (with_reducible repeat (first | refine blk_drewN ?_ _ | refine blk_drew ?_ | refine blk_alloc ?_ _)); refine blk_put (cs := #[.int .u64 t234, .int .u64 0]) ?_ 1 _ rfl; (with_reducible repeat (first | refine blk_drewN ?_ _ | refine blk_drew ?_ | refine blk_alloc ?_ _)); refine blk_put (cs := #[.int .u64 0, .int .u64 0]) ?_ 0 _ rfl; exact kA⟩, ⟨bA⟩⟩
    ·rw [if_neg c24] at H
     have c24b0 : decide (0 < t231) = false := decide_eq_false c24
     clear c24
     (first | rw [c24b0] | (simp only [i64_w, i32_w]; rw [c24b0]) | skip)
     have H' := Aside0.mk H
     clear H
     have hnb25 := NB233_236.out
     have hnc25 := NB236_233.out
     have hcz26_0 : w21.cell? ⟨gb233, 0, none⟩ = some (.int .u64 t229) := (blk_cell BK233.out 0).trans rfl
     have hcz26_1 : w21.cell? ⟨gb233, 1, none⟩ = some (.int .u64 t230) := (blk_cell BK233.out 1).trans rfl
     have hfz26_0 := blk_frozen BK233.out 0
     have hfz26_1 := blk_frozen BK233.out 1
     go_wp2
     go_meet
     case rel => exact ⟨_, (decide ((IntKind.u64.wrap (t230 * 8589934592)) > 0)), (by first | rfl | (simp; done) | (simp [*]; done)), H', ⟨by have := HJ6.out; first | omega | exact Nat.le_refl _⟩, ⟨by (with_reducible repeat (first | refine blk_drewN ?_ _ | refine blk_drew ?_ | refine blk_alloc ?_ _)); refine blk_far ?_ NB233_236.out _; (with_reducible repeat (first | refine blk_drewN ?_ _ | refine blk_drew ?_ | refine blk_alloc ?_ _)); refine blk_far ?_ NB233_236.out _; exact kA⟩, ⟨by (with_reducible repeat (first | refine blk_drewN ?_ _ | refine blk_drew ?_ | refine blk_alloc ?_ _)); refine blk_put (cs := #[.int .u64 t234, .int .u64 0]) ?_ 1 _ rfl; (with_reducible repeat (first | refine blk_drewN ?_ _ | refine blk_drew ?_ | refine blk_alloc ?_ _)); refine blk_put (cs := #[.int .u64 0, .int .u64 0]) ?_ 0 _ rfl; exact kA⟩, ⟨bA⟩⟩
   case rest =>
    clear HC15
    try clear c1
    try clear c2
    try clear p2
    try clear c4
    try clear c11
    try clear c11b0
    try clear c22
    try clear c24
    try clear c24b0
    try clear c25
    try clear hcz19_0
    try clear hcz19_1
    try clear hcz23_0
    try clear hcz23_1
    try clear hcz26_0
    try clear hcz26_1
    try clear hfz19_0
    try clear hfz19_1
    try clear hfz23_0
    try clear hfz23_1
    try clear hfz26_0
    try clear hfz26_1
    try clear p2
    obtain ⟨kq, x35_14, rfl, HA, HJ14, BK233, BK236, HB⟩ := hcut
    cases kq with
    | zero => exact absurd HA.out (by simp [share_exponent.j1])
    | succ kj14 =>
     have H := HA.out
     clear HA
     simp only [share_exponent.j1] at H
     by_cases c27 : x35_14 = true
     ·subst c27
      have H1 : ((wide_Of.f 1).bind fun bt237 => ((wide_Add.f t234 t235 bt237.1 bt237.2).bind fun bt239 => (if bt239.1 > 0 then (some 18446744073709551615) else (some bt239.2.1)))) = some r := by rw [if_pos rfl] at H; exact H
      clear H
      have H := H1
      clear H1; replace H := Option.bind_eq_some_iff.mp H; obtain ⟨⟨t237, t238⟩, A280, H⟩ := H; replace H : ((wide_Add.f t234 t235 t237 t238).bind fun bt239 => (if bt239.1 > 0 then (some 18446744073709551615) else (some bt239.2.1))) = some r := H; have A28 := Aside0.mk A280; clear A280; replace H := Option.bind_eq_some_iff.mp H; obtain ⟨⟨t239, t240, t241⟩, A290, H⟩ := H; replace H : (if t239 > 0 then (some 18446744073709551615) else (some t240)) = some r := H; have A29 := Aside0.mk A290; clear A290
      by_cases c30 : t239 > 0
      ·rw [if_pos c30] at H
       have c30b0 : decide (0 < t239) = true := decide_eq_true c30
       clear c30
       obtain rfl := Option.some.inj H
       try go_wp2
       have n0_ := Aside0.mk (blk_drew BK233.out); have n1_ := Aside0.mk (blk_drew BK236.out); have n2_ := Aside0.mk (below_drew1 HB.out); clear BK233 BK236 HB; have BK233 := n0_; have BK236 := n1_; have HB := n2_; clear n0_ n1_ n2_
       refine start_ (n := 7) (S := fun w' => w'.cell? ⟨gb236, 0, none⟩ = some (.int .u64 t234) ∧ w'.cell? ⟨gb236, 1, none⟩ = some (.int .u64 t235)) (ds := [6]) #[false, false, false, false, false, false, false] (by kernel_rfl) rfl rfl ⟨(blk_cell BK236.out 0).trans rfl, (blk_cell BK236.out 1).trans rfl⟩ (fun hHeld => ?_)
       generalize wc.drew = w31 at BK233 BK236 HB hHeld ⊢
       refine take_ (i := 0) (N := some 37) (v := ?_) (a' := ?_) #[true, false, false, false, false, false, false] rfl rfl (by kernel_rfl) (fun _ _ _ h => h) (Or.inl ⟨by rfl, ?_⟩) hHeld ?_ ?_
       rotate_left
       ·rintro w' ⟨s0, s1⟩
        go_simp; with_reducible rfl
       rotate_left
       ·simp only [Act.put, List.setIfInBounds_toArray, List.set_cons_zero, List.set_cons_succ, i64_w, i32_w]
        rfl
       refine one_ (i := 1) (N := some 38) #[true, true, false, false, false, false, false] rfl rfl (by kernel_rfl) (by decide) (fun K hK => ?_)
       refine goes_ Tryd.func44 (by kernel_rfl) rfl #[.int .u64 1] (by rfl) rfl rfl aA ?_
       with_reducible refine (wide_Of.calls 1 t237 t238 _ A28.out).mono ?_
       rintro e w32 ⟨rfl, hb⟩
       refine ⟨_, rfl, ?_⟩; have n0_ := Aside0.mk (blk_below (g := gb233) kA hb); have n1_ := Aside0.mk (blk_below (g := gb236) kA hb); have n2_ := Aside0.mk (below_step bA hb); clear BK233 BK236 HB; have BK233 := n0_; have BK236 := n1_; have HB := n2_; clear n0_ n1_ n2_; (try clear hb)
       refine hK.out _ _ ⟨(blk_cell BK236.out 0).trans rfl, (blk_cell BK236.out 1).trans rfl⟩ (fun hHeld => ?_)
       clear hK K
       refine norm_ (a' := ?_) ?_ ?_
       rotate_left
       ·show Act.put _ (some 38) _ = _
        simp only [Act.put, List.setIfInBounds_toArray, List.set_cons_zero, List.set_cons_succ, i64_w, i32_w]
        rfl
       refine one_ (i := 2) (N := some 39) #[true, true, true, false, false, false, false] rfl rfl (by kernel_rfl) (by decide) (fun K hK => ?_)
       refine goes_ Tryd.func46 (by kernel_rfl) rfl #[.agg #[.int .u64 t234, .int .u64 t235], .agg #[.int .u64 t237, .int .u64 t238]] (by rfl) rfl rfl aA ?_
       with_reducible refine (wide_Add.calls t234 t235 t237 t238 t239 t240 t241 _ A29.out).mono ?_
       rintro e w33 ⟨rfl, hb⟩
       refine ⟨_, rfl, ?_⟩; have n0_ := Aside0.mk (blk_below (g := gb233) kA hb); have n1_ := Aside0.mk (blk_below (g := gb236) kA hb); have n2_ := Aside0.mk (below_step bA hb); clear BK233 BK236 HB; have BK233 := n0_; have BK236 := n1_; have HB := n2_; clear n0_ n1_ n2_; (try clear hb)
       refine hK.out _ _ ⟨(blk_cell BK236.out 0).trans rfl, (blk_cell BK236.out 1).trans rfl⟩ (fun hHeld => ?_)
       clear hK K
       refine norm_ (a' := ?_) ?_ ?_
       rotate_left
       ·show Act.put _ (some 39) _ = _
        simp only [Act.put, List.setIfInBounds_toArray, List.set_cons_zero, List.set_cons_succ, i64_w, i32_w]
        rfl
       refine pure_ (i := 3) (N := some 36) (v := ?_) (a' := ?_) #[true, true, true, true, false, false, false] rfl rfl (by kernel_rfl) (fun _ _ _ h => h) (Or.inl ⟨by rfl, ?_⟩) ?_ ?_
       rotate_left
       ·intro w'
        go_simp; with_reducible rfl
       rotate_left
       ·simp only [Act.put, List.setIfInBounds_toArray, List.set_cons_zero, List.set_cons_succ, i64_w, i32_w]
        rfl
       refine pure_ (i := 4) (N := some 40) (v := ?_) (a' := ?_) #[true, true, true, true, true, false, false] rfl rfl (by kernel_rfl) (fun _ _ _ h => h) (Or.inl ⟨by rfl, ?_⟩) ?_ ?_
       rotate_left
       ·intro w'
        go_simp; with_reducible rfl
       rotate_left
       ·simp only [Act.put, List.setIfInBounds_toArray, List.set_cons_zero, List.set_cons_succ, i64_w, i32_w]
        rfl
       refine pure_ (i := 5) (N := some 41) (v := ?_) (a' := ?_) #[true, true, true, true, true, true, false] rfl rfl (by kernel_rfl) (fun _ _ _ h => h) (Or.inl ⟨by rfl, ?_⟩) ?_ ?_
       rotate_left
       ·intro w'
        go_simp; with_reducible rfl
       rotate_left
       ·simp only [Act.put, List.setIfInBounds_toArray, List.set_cons_zero, List.set_cons_succ, i64_w, i32_w]
        rfl
       refine last_ (i := 6) (N := none) #[true, true, true, true, true, true, true] rfl rfl (by kernel_rfl) (by decide) (fun K hK => ?_)
       have hs34 : w33.cell? ⟨gb236, 0, none⟩ = some (.int .u64 t234) := (blk_cell BK236.out 0).trans rfl
       have hfs34 := blk_frozen BK236.out 0
       have hns34_0 := NB233_236.out
       have hms34_0 := NB236_233.out
       have hs35 : w33.cell? ⟨gb236, 1, none⟩ = some (.int .u64 t235) := (blk_cell BK236.out 1).trans rfl
       have hfs35 := blk_frozen BK236.out 1
       have hns35_0 := NB233_236.out
       have hms35_0 := NB236_233.out
       refine skip_ (w1 := ?_) (by rfl) rfl ?_ ?_
       rotate_left
       ·go_simp
        rfl
       refine hK.out _ _ ?_
       clear hK K
       refine done_ (by kernel_rfl) ?_
       have hnb36 := NB236_233.out
       have hnc36 := NB233_236.out
       have hcz37_0 : w33.cell? ⟨gb236, 0, none⟩ = some (.int .u64 t234) := (blk_cell BK236.out 0).trans rfl
       have hcz37_1 : w33.cell? ⟨gb236, 1, none⟩ = some (.int .u64 t235) := (blk_cell BK236.out 1).trans rfl
       have hfz37_0 := blk_frozen BK236.out 0
       have hfz37_1 := blk_frozen BK236.out 1
       try go_wp2
       go_ret
       exact ⟨by first | rfl | (simp [errW_none, errW_some] <;> rfl) | (simp [*, errW_none, errW_some] <;> rfl), bA⟩
      ·rw [if_neg c30] at H
       have c30b0 : decide (0 < t239) = false := decide_eq_false c30
       clear c30
       obtain rfl := Option.some.inj H
       try go_wp2
       have n0_ := Aside0.mk (blk_drew BK233.out); have n1_ := Aside0.mk (blk_drew BK236.out); have n2_ := Aside0.mk (below_drew1 HB.out); clear BK233 BK236 HB; have BK233 := n0_; have BK236 := n1_; have HB := n2_; clear n0_ n1_ n2_
       refine start_ (n := 7) (S := fun w' => w'.cell? ⟨gb236, 0, none⟩ = some (.int .u64 t234) ∧ w'.cell? ⟨gb236, 1, none⟩ = some (.int .u64 t235)) (ds := [6]) #[false, false, false, false, false, false, false] (by kernel_rfl) rfl rfl ⟨(blk_cell BK236.out 0).trans rfl, (blk_cell BK236.out 1).trans rfl⟩ (fun hHeld => ?_)
       generalize wc.drew = w38 at BK233 BK236 HB hHeld ⊢
       refine take_ (i := 0) (N := some 37) (v := ?_) (a' := ?_) #[true, false, false, false, false, false, false] rfl rfl (by kernel_rfl) (fun _ _ _ h => h) (Or.inl ⟨by rfl, ?_⟩) hHeld ?_ ?_
       rotate_left
       ·rintro w' ⟨s0, s1⟩
        go_simp; with_reducible rfl
       rotate_left
       ·simp only [Act.put, List.setIfInBounds_toArray, List.set_cons_zero, List.set_cons_succ, i64_w, i32_w]
        rfl
       refine one_ (i := 1) (N := some 38) #[true, true, false, false, false, false, false] rfl rfl (by kernel_rfl) (by decide) (fun K hK => ?_)
       refine goes_ Tryd.func44 (by kernel_rfl) rfl #[.int .u64 1] (by rfl) rfl rfl aA ?_
       with_reducible refine (wide_Of.calls 1 t237 t238 _ A28.out).mono ?_
       rintro e w39 ⟨rfl, hb⟩
       refine ⟨_, rfl, ?_⟩; have n0_ := Aside0.mk (blk_below (g := gb233) kA hb); have n1_ := Aside0.mk (blk_below (g := gb236) kA hb); have n2_ := Aside0.mk (below_step bA hb); clear BK233 BK236 HB; have BK233 := n0_; have BK236 := n1_; have HB := n2_; clear n0_ n1_ n2_; (try clear hb)
       refine hK.out _ _ ⟨(blk_cell BK236.out 0).trans rfl, (blk_cell BK236.out 1).trans rfl⟩ (fun hHeld => ?_)
       clear hK K
       refine norm_ (a' := ?_) ?_ ?_
       rotate_left
       ·show Act.put _ (some 38) _ = _
        simp only [Act.put, List.setIfInBounds_toArray, List.set_cons_zero, List.set_cons_succ, i64_w, i32_w]
        rfl
       refine one_ (i := 2) (N := some 39) #[true, true, true, false, false, false, false] rfl rfl (by kernel_rfl) (by decide) (fun K hK => ?_)
       refine goes_ Tryd.func46 (by kernel_rfl) rfl #[.agg #[.int .u64 t234, .int .u64 t235], .agg #[.int .u64 t237, .int .u64 t238]] (by rfl) rfl rfl aA ?_
       with_reducible refine (wide_Add.calls t234 t235 t237 t238 t239 t240 t241 _ A29.out).mono ?_
       rintro e w40 ⟨rfl, hb⟩
       refine ⟨_, rfl, ?_⟩; have n0_ := Aside0.mk (blk_below (g := gb233) kA hb); have n1_ := Aside0.mk (blk_below (g := gb236) kA hb); have n2_ := Aside0.mk (below_step bA hb); clear BK233 BK236 HB; have BK233 := n0_; have BK236 := n1_; have HB := n2_; clear n0_ n1_ n2_; (try clear hb)
       refine hK.out _ _ ⟨(blk_cell BK236.out 0).trans rfl, (blk_cell BK236.out 1).trans rfl⟩ (fun hHeld => ?_)
       clear hK K
       refine norm_ (a' := ?_) ?_ ?_
       rotate_left
       ·show Act.put _ (some 39) _ = _
        simp only [Act.put, List.setIfInBounds_toArray, List.set_cons_zero, List.set_cons_succ, i64_w, i32_w]
        rfl
       refine pure_ (i := 3) (N := some 36) (v := ?_) (a' := ?_) #[true, true, true, true, false, false, false] rfl rfl (by kernel_rfl) (fun _ _ _ h => h) (Or.inl ⟨by rfl, ?_⟩) ?_ ?_
       rotate_left
       ·intro w'
        go_simp; with_reducible rfl
       rotate_left
       ·simp only [Act.put, List.setIfInBounds_toArray, List.set_cons_zero, List.set_cons_succ, i64_w, i32_w]
        rfl
       refine pure_ (i := 4) (N := some 40) (v := ?_) (a' := ?_) #[true, true, true, true, true, false, false] rfl rfl (by kernel_rfl) (fun _ _ _ h => h) (Or.inl ⟨by rfl, ?_⟩) ?_ ?_
       rotate_left
       ·intro w'
        go_simp; with_reducible rfl
       rotate_left
       ·simp only [Act.put, List.setIfInBounds_toArray, List.set_cons_zero, List.set_cons_succ, i64_w, i32_w]
        rfl
       refine pure_ (i := 5) (N := some 41) (v := ?_) (a' := ?_) #[true, true, true, true, true, true, false] rfl rfl (by kernel_rfl) (fun _ _ _ h => h) (Or.inl ⟨by rfl, ?_⟩) ?_ ?_
       rotate_left
       ·intro w'
        go_simp; with_reducible rfl
       rotate_left
       ·simp only [Act.put, List.setIfInBounds_toArray, List.set_cons_zero, List.set_cons_succ, i64_w, i32_w]
        rfl
       refine last_ (i := 6) (N := none) #[true, true, true, true, true, true, true] rfl rfl (by kernel_rfl) (by decide) (fun K hK => ?_)
       have hs41 : w40.cell? ⟨gb236, 0, none⟩ = some (.int .u64 t234) := (blk_cell BK236.out 0).trans rfl
       have hfs41 := blk_frozen BK236.out 0
       have hns41_0 := NB233_236.out
       have hms41_0 := NB236_233.out
       have hs42 : w40.cell? ⟨gb236, 1, none⟩ = some (.int .u64 t235) := (blk_cell BK236.out 1).trans rfl
       have hfs42 := blk_frozen BK236.out 1
       have hns42_0 := NB233_236.out
       have hms42_0 := NB236_233.out
       refine skip_ (w1 := ?_) (by rfl) rfl ?_ ?_
       rotate_left
       ·go_simp
        rfl
       refine hK.out _ _ ?_
       clear hK K
       refine done_ (by kernel_rfl) ?_
       have hnb43 := NB236_233.out
       have hnc43 := NB233_236.out
       have hcz44_0 : w40.cell? ⟨gb236, 0, none⟩ = some (.int .u64 t234) := (blk_cell BK236.out 0).trans rfl
       have hcz44_1 : w40.cell? ⟨gb236, 1, none⟩ = some (.int .u64 t235) := (blk_cell BK236.out 1).trans rfl
       have hfz44_0 := blk_frozen BK236.out 0
       have hfz44_1 := blk_frozen BK236.out 1
       try go_wp2
       go_ret
       exact ⟨by first | rfl | (simp [errW_none, errW_some] <;> rfl) | (simp [*, errW_none, errW_some] <;> rfl), bA⟩
     ·replace c27 := Bool.eq_false_iff.mpr c27
      subst c27
      have H1 : (if t234 > 0 then (some 18446744073709551615) else (some t235)) = some r := by rw [if_neg (show ¬ (false = true) by decide)] at H; exact H
      clear H
      have H := H1
      clear H1
      by_cases c45 : t234 > 0
      ·rw [if_pos c45] at H
       have c45b0 : decide (0 < t234) = true := decide_eq_true c45
       clear c45
       obtain rfl := Option.some.inj H
       have hnb46 := NB236_233.out
       have hnc46 := NB233_236.out
       have hcz47_0 : wc.cell? ⟨gb236, 0, none⟩ = some (.int .u64 t234) := (blk_cell BK236.out 0).trans rfl
       have hcz47_1 : wc.cell? ⟨gb236, 1, none⟩ = some (.int .u64 t235) := (blk_cell BK236.out 1).trans rfl
       have hfz47_0 := blk_frozen BK236.out 0
       have hfz47_1 := blk_frozen BK236.out 1
       go_wp2
       go_ret
       exact ⟨by first | rfl | (simp [errW_none, errW_some] <;> rfl) | (simp [*, errW_none, errW_some] <;> rfl), bA⟩
      ·rw [if_neg c45] at H
       have c45b0 : decide (0 < t234) = false := decide_eq_false c45
       clear c45
       obtain rfl := Option.some.inj H
       have hnb48 := NB236_233.out
       have hnc48 := NB233_236.out
       have hcz49_0 : wc.cell? ⟨gb236, 0, none⟩ = some (.int .u64 t234) := (blk_cell BK236.out 0).trans rfl
       have hcz49_1 : wc.cell? ⟨gb236, 1, none⟩ = some (.int .u64 t235) := (blk_cell BK236.out 1).trans rfl
       have hfz49_0 := blk_frozen BK236.out 0
       have hfz49_1 := blk_frozen BK236.out 1
       go_wp2
       go_ret
       exact ⟨by first | rfl | (simp [errW_none, errW_some] <;> rfl) | (simp [*, errW_none, errW_some] <;> rfl), bA⟩

-- NOT PRINTED: function 8 (share_Factors)

/-! ### backfilllaw13_plain: function 14 -/
def backfilllaw13_plain.f  : Option (Int × Int × Int × Int × Int × Int × Int × Int) := some (4, 8, 10, 1, 1000, 0, 100, 100)
set_option maxHeartbeats 8000000 in
set_option maxRecDepth 100000 in
theorem backfilllaw13_plain.calls  (r1 : Int) (r2 : Int) (r3 : Int) (r4 : Int) (r5 : Int) (r6 : Int) (r7 : Int) (r8 : Int) (w : World) (h : backfilllaw13_plain.f  = some (r1, r2, r3, r4, r5, r6, r7, r8)) :
  Calls Tryd.prog 14 #[] w fun e w' => e = .returned (.agg #[.int .i64 r1, .int .i64 r2, .int .i64 r3, .int .i64 r4, .int .i64 r5, .int .i64 r6, .int .i64 r7, .int .i64 r8]) ∧ Below w.heap.size w w' := by
 have hu23 := Tryd.underlying23
 have HB := Aside0.mk (Below.refl w.heap.size w)
 have H : (some (4, 8, 10, 1, 1000, 0, 100, 100)) = some (r1, r2, r3, r4, r5, r6, r7, r8) := h
 clear h
 simp only [Option.some.injEq, Prod.mk.injEq] at H
 obtain ⟨rfl, rfl, rfl, rfl, rfl, rfl, rfl, rfl⟩ := H
 go_enter Tryd.func14, Tryd.ntmps14
 go_wp2_with (first | ((with_reducible refine gate_dst (N := 0) rfl ?_); refine bxA 0 #[.int .i64 0, .int .i64 0, .int .i64 0, .int .i64 0, .int .i64 0, .int .i64 0, .int .i64 0, .int .i64 0] 23 ?_; intro gb243 hg w1 hbox hb; have n0_ := Aside0.mk (below_step bA hb); have n1_ := Aside0.mk (hbox); have n2_ := Aside0.mk (gwA hg bA); have n3_ := Aside0.mk (gwA hg bA); clear HB; have HB := n0_; have BK243 := n1_; have GW243 := n2_; have GE243 := n3_; clear n0_ n1_ n2_ n3_ hb hbox hg; have hcz2_0 : w1.cell? ⟨gb243, 0, none⟩ = some (.int .i64 0) := (blk_cell BK243.out 0).trans rfl; have hcz2_1 : w1.cell? ⟨gb243, 1, none⟩ = some (.int .i64 0) := (blk_cell BK243.out 1).trans rfl; have hcz2_2 : w1.cell? ⟨gb243, 2, none⟩ = some (.int .i64 0) := (blk_cell BK243.out 2).trans rfl; have hcz2_3 : w1.cell? ⟨gb243, 3, none⟩ = some (.int .i64 0) := (blk_cell BK243.out 3).trans rfl; have hcz2_4 : w1.cell? ⟨gb243, 4, none⟩ = some (.int .i64 0) := (blk_cell BK243.out 4).trans rfl; have hcz2_5 : w1.cell? ⟨gb243, 5, none⟩ = some (.int .i64 0) := (blk_cell BK243.out 5).trans rfl; have hcz2_6 : w1.cell? ⟨gb243, 6, none⟩ = some (.int .i64 0) := (blk_cell BK243.out 6).trans rfl; have hcz2_7 : w1.cell? ⟨gb243, 7, none⟩ = some (.int .i64 0) := (blk_cell BK243.out 7).trans rfl; have hfz2_0 := blk_frozen BK243.out 0; have hfz2_1 := blk_frozen BK243.out 1; have hfz2_2 := blk_frozen BK243.out 2; have hfz2_3 := blk_frozen BK243.out 3; have hfz2_4 := blk_frozen BK243.out 4; have hfz2_5 := blk_frozen BK243.out 5; have hfz2_6 := blk_frozen BK243.out 6; have hfz2_7 := blk_frozen BK243.out 7))
 refine bodyPost_ret (results_cell_row rfl _ _ gb243 23 #[.int .i64 4, .int .i64 8, .int .i64 10, .int .i64 1, .int .i64 1000, .int .i64 0, .int .i64 100, .int .i64 100] (0, 0) _ rfl (by (with_reducible repeat (first | refine blk_drewN ?_ _ | refine blk_drew ?_ | refine blk_alloc ?_ _)); refine blk_put (cs := #[.int .i64 4, .int .i64 8, .int .i64 10, .int .i64 1, .int .i64 1000, .int .i64 0, .int .i64 100, .int .i64 0]) ?_ 7 _ rfl; (with_reducible repeat (first | refine blk_drewN ?_ _ | refine blk_drew ?_ | refine blk_alloc ?_ _)); refine blk_put (cs := #[.int .i64 4, .int .i64 8, .int .i64 10, .int .i64 1, .int .i64 1000, .int .i64 0, .int .i64 0, .int .i64 0]) ?_ 6 _ rfl; (with_reducible repeat (first | refine blk_drewN ?_ _ | refine blk_drew ?_ | refine blk_alloc ?_ _)); refine blk_put (cs := #[.int .i64 4, .int .i64 8, .int .i64 10, .int .i64 1, .int .i64 1000, .int .i64 0, .int .i64 0, .int .i64 0]) ?_ 5 _ rfl; (with_reducible repeat (first | refine blk_drewN ?_ _ | refine blk_drew ?_ | refine blk_alloc ?_ _)); refine blk_put (cs := #[.int .i64 4, .int .i64 8, .int .i64 10, .int .i64 1, .int .i64 0, .int .i64 0, .int .i64 0, .int .i64 0]) ?_ 4 _ rfl; (with_reducible repeat (first | refine blk_drewN ?_ _ | refine blk_drew ?_ | refine blk_alloc ?_ _)); refine blk_put (cs := #[.int .i64 4, .int .i64 8, .int .i64 10, .int .i64 0, .int .i64 0, .int .i64 0, .int .i64 0, .int .i64 0]) ?_ 3 _ rfl; (with_reducible repeat (first | refine blk_drewN ?_ _ | refine blk_drew ?_ | refine blk_alloc ?_ _)); refine blk_put (cs := #[.int .i64 4, .int .i64 8, .int .i64 0, .int .i64 0, .int .i64 0, .int .i64 0, .int .i64 0, .int .i64 0]) ?_ 2 _ rfl; (with_reducible repeat (first | refine blk_drewN ?_ _ | refine blk_drew ?_ | refine blk_alloc ?_ _)); refine blk_put (cs := #[.int .i64 4, .int .i64 0, .int .i64 0, .int .i64 0, .int .i64 0, .int .i64 0, .int .i64 0, .int .i64 0]) ?_ 1 _ rfl; (with_reducible repeat (first | refine blk_drewN ?_ _ | refine blk_drew ?_ | refine blk_alloc ?_ _)); refine blk_put (cs := #[.int .i64 0, .int .i64 0, .int .i64 0, .int .i64 0, .int .i64 0, .int .i64 0, .int .i64 0, .int .i64 0]) ?_ 0 _ rfl; exact kA) Tryd.underlying23 rfl (by kernel_rfl)) rfl ?_
 exact ⟨by first | rfl | (simp [errW_none, errW_some] <;> rfl) | (simp [*, errW_none, errW_some] <;> rfl), bA⟩

-- NOT PRINTED: function 5 (backfilllaw13_shown)

end Go.Proofs.YtbhijfbjdbjpbaaDoor.GSH
