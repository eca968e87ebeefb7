-- Laid by a program of this session (wip/tools/pr.py): contracts and pure functions; Lean checks it.
import Derived.Test.YtcolhngdhlamkaaGFLx0
namespace Go.Proofs.Ytcolhngdhlamkaa.GFL
open Go.RowKit Go.Proofs.YtcolhngdhlamkaaW.PrintWords Go.Proofs.YtcolhngdhlamkaaW.PrintLast Go.Proofs.YtcolhngdhlamkaaW.PrintMore
attribute [local go_sem] max2_int min2_int max_two min_two max_three min_three max_four min_four   -- for this text's walks alone
set_option linter.unusedVariables false
set_option linter.unusedSimpArgs false

/-! ### backfilllaw04_beside: function 68 -/
def backfilllaw04_beside.f (a0_0 : Int) (a0_1 : Bool) (a1_0 : Int) (a1_1 : Bool) : Option (Bool) := if (a0_1 == a1_1) = true then (if a0_0 = a1_0 then (some true) else (if a0_1 = true then (if (IntKind.u64.wrap (a0_0 + 1)) = a1_0 then (some true) else (if a1_1 = true then (some false) else (some (a0_0 == 18446744073709551615)))) else (some false))) else (if a0_1 = true then (if a1_1 = true then (some false) else (some (a0_0 == 18446744073709551615))) else (some false))
set_option maxHeartbeats 8000000 in
set_option maxRecDepth 100000 in
theorem backfilllaw04_beside.calls (a0_0 : Int) (a0_1 : Bool) (a1_0 : Int) (a1_1 : Bool) (r : Bool) (w : World) (h : backfilllaw04_beside.f a0_0 a0_1 a1_0 a1_1 = some r) :
  Calls Try.prog 68 #[.agg #[.int .u64 a0_0, .bool a0_1], .agg #[.int .u64 a1_0, .bool a1_1]] w fun e w' => e = .returned (.bool r) ∧ Below w.heap.size w w' := by
 have hu63 := Try.underlying63
 have HB := Aside0.mk (Below.refl w.heap.size w)
 have H : (if (a0_1 == a1_1) = true then (if a0_0 = a1_0 then (some true) else (if a0_1 = true then (if (IntKind.u64.wrap (a0_0 + 1)) = a1_0 then (some true) else (if a1_1 = true then (some false) else (some (a0_0 == 18446744073709551615)))) else (some false))) else (if a0_1 = true then (if a1_1 = true then (some false) else (some (a0_0 == 18446744073709551615))) else (some false))) = some r := h
 clear h
 by_cases c3 : (a0_1 == a1_1) = true
 ·rw [if_pos c3] at H
  have c3b0 : (a0_1 == a1_1) = true := c3
  (try (have c3b1 : decide (a0_1 = a1_1) = true := by simpa using c3))
  (try (have c3b2 : (a0_1 == a1_1) = true := by simpa using c3))
  clear c3
  by_cases c4 : a0_0 = a1_0
  ·rw [if_pos c4] at H
   have c4b0 : (a0_0 == a1_0) = true := beq_iff_eq.mpr c4
   have c4b1 : (a0_0 != a1_0) = false := bne_eq_false_iff_eq.mpr c4
   clear c4
   obtain rfl := Option.some.inj H
   go_enter Try.func68, Try.ntmps68
   go_wp2_with (first | ((with_reducible refine gate_dst (N := 2) rfl ?_); refine bxA 2 #[.int .u64 a0_0, .bool a0_1] 63 ?_; intro gb226 hg w5 hbox hb; have n0_ := Aside0.mk (below_step bA hb); have n1_ := Aside0.mk (hbox); have n2_ := Aside0.mk ((by rw [hg]; exact (below_size bA) : w.heap.size ≤ gb226)); have n3_ := Aside0.mk ((by rw [hg]; exact (below_size bA) : w.heap.size ≤ gb226)); clear HB; have HB := n0_; have BK226 := n1_; have GW226 := n2_; have GE226 := n3_; clear n0_ n1_ n2_ n3_ hb hbox hg) | ((with_reducible refine gate_dst (N := 3) rfl ?_); refine bxA 3 #[.int .u64 a1_0, .bool a1_1] 63 ?_; intro gb227 hg w6 hbox hb; have n0_ := Aside0.mk (blk_below (g := gb226) (o := .cells #[.int .u64 a0_0, .bool a0_1] 63 (0, 0)) kA hb); have n1_ := Aside0.mk (below_step bA hb); have n2_ := Aside0.mk (hbox); have n3_ := Aside0.mk ((by rw [hg]; exact (below_size bA) : w.heap.size ≤ gb227)); have n4_ := Aside0.mk ((by rw [hg]; exact (below_size bA) : w.heap.size ≤ gb227)); have n5_ := Aside0.mk ((by rw [hg]; exact Nat.ne_of_lt (blk_lt (g := gb226) (o := .cells #[.int .u64 a0_0, .bool a0_1] 63 (0, 0)) kA) : gb226 ≠ gb227)); have n6_ := Aside0.mk ((by rw [hg]; exact Nat.ne_of_gt (blk_lt (g := gb226) (o := .cells #[.int .u64 a0_0, .bool a0_1] 63 (0, 0)) kA) : gb227 ≠ gb226)); clear BK226 HB; have BK226 := n0_; have HB := n1_; have BK227 := n2_; have GW227 := n3_; have GE227 := n4_; have NB226_227 := n5_; have NB227_226 := n6_; clear n0_ n1_ n2_ n3_ n4_ n5_ n6_ hb hbox hg; have hnb7 := NB226_227.out; have hnc7 := NB227_226.out; have hcz8_0 : w6.cell? ⟨gb226, 0, none⟩ = some (.int .u64 a0_0) := (blk_cell BK226.out 0).trans rfl; have hcz8_1 : w6.cell? ⟨gb226, 1, none⟩ = some (.bool a0_1) := (blk_cell BK226.out 1).trans rfl; have hfz8_0 := blk_frozen BK226.out 0; have hfz8_1 := blk_frozen BK226.out 1; have hcz9_0 : w6.cell? ⟨gb227, 0, none⟩ = some (.int .u64 a1_0) := (blk_cell BK227.out 0).trans rfl; have hcz9_1 : w6.cell? ⟨gb227, 1, none⟩ = some (.bool a1_1) := (blk_cell BK227.out 1).trans rfl; have hfz9_0 := blk_frozen BK227.out 0; have hfz9_1 := blk_frozen BK227.out 1))
   go_ret
   exact ⟨by first | rfl | (simp [errW_none, errW_some] <;> rfl) | (simp [*, errW_none, errW_some] <;> rfl), bA⟩
  ·rw [if_neg c4] at H
   have c4b0 : (a0_0 == a1_0) = false := beq_eq_false_iff_ne.mpr c4
   have c4b1 : (a0_0 != a1_0) = true := bne_iff_ne.mpr c4
   by_cases c10 : a0_1 = true
   ·subst c10
    have H1 : (if (IntKind.u64.wrap (a0_0 + 1)) = a1_0 then (some true) else (if a1_1 = true then (some false) else (some (a0_0 == 18446744073709551615)))) = some r := by rw [if_pos rfl] at H; exact H
    clear H
    have H := H1
    clear H1
    by_cases c11 : (IntKind.u64.wrap (a0_0 + 1)) = a1_0
    ·rw [if_pos c11] at H
     have c11b0 : ((IntKind.u64.wrap (a0_0 + 1)) == a1_0) = true := beq_iff_eq.mpr c11
     have c11b1 : ((IntKind.u64.wrap (a0_0 + 1)) != a1_0) = false := bne_eq_false_iff_eq.mpr c11
     clear c11
     obtain rfl := Option.some.inj H
     go_enter Try.func68, Try.ntmps68
     go_wp2_with (first | ((with_reducible refine gate_dst (N := 2) rfl ?_); refine bxA 2 #[.int .u64 a0_0, .bool true] 63 ?_; intro gb226 hg w12 hbox hb; have n0_ := Aside0.mk (below_step bA hb); have n1_ := Aside0.mk (hbox); have n2_ := Aside0.mk ((by rw [hg]; exact (below_size bA) : w.heap.size ≤ gb226)); have n3_ := Aside0.mk ((by rw [hg]; exact (below_size bA) : w.heap.size ≤ gb226)); clear HB; have HB := n0_; have BK226 := n1_; have GW226 := n2_; have GE226 := n3_; clear n0_ n1_ n2_ n3_ hb hbox hg) | ((with_reducible refine gate_dst (N := 3) rfl ?_); refine bxA 3 #[.int .u64 a1_0, .bool a1_1] 63 ?_; intro gb227 hg w13 hbox hb; have n0_ := Aside0.mk (blk_below (g := gb226) (o := .cells #[.int .u64 a0_0, .bool true] 63 (0, 0)) kA hb); have n1_ := Aside0.mk (below_step bA hb); have n2_ := Aside0.mk (hbox); have n3_ := Aside0.mk ((by rw [hg]; exact (below_size bA) : w.heap.size ≤ gb227)); have n4_ := Aside0.mk ((by rw [hg]; exact (below_size bA) : w.heap.size ≤ gb227)); have n5_ := Aside0.mk ((by rw [hg]; exact Nat.ne_of_lt (blk_lt (g := gb226) (o := .cells #[.int .u64 a0_0, .bool true] 63 (0, 0)) kA) : gb226 ≠ gb227)); have n6_ := Aside0.mk ((by rw [hg]; exact Nat.ne_of_gt (blk_lt (g := gb226) (o := .cells #[.int .u64 a0_0, .bool true] 63 (0, 0)) kA) : gb227 ≠ gb226)); clear BK226 HB; have BK226 := n0_; have HB := n1_; have BK227 := n2_; have GW227 := n3_; have GE227 := n4_; have NB226_227 := n5_; have NB227_226 := n6_; clear n0_ n1_ n2_ n3_ n4_ n5_ n6_ hb hbox hg; have hnb14 := NB226_227.out; have hnc14 := NB227_226.out; have hcz15_0 : w13.cell? ⟨gb226, 0, none⟩ = some (.int .u64 a0_0) := (blk_cell BK226.out 0).trans rfl; have hcz15_1 : w13.cell? ⟨gb226, 1, none⟩ = some (.bool true) := (blk_cell BK226.out 1).trans rfl; have hfz15_0 := blk_frozen BK226.out 0; have hfz15_1 := blk_frozen BK226.out 1; have hcz16_0 : w13.cell? ⟨gb227, 0, none⟩ = some (.int .u64 a1_0) := (blk_cell BK227.out 0).trans rfl; have hcz16_1 : w13.cell? ⟨gb227, 1, none⟩ = some (.bool a1_1) := (blk_cell BK227.out 1).trans rfl; have hfz16_0 := blk_frozen BK227.out 0; have hfz16_1 := blk_frozen BK227.out 1))
     go_ret
     exact ⟨by first | rfl | (simp [errW_none, errW_some] <;> rfl) | (simp [*, errW_none, errW_some] <;> rfl), bA⟩
    ·rw [if_neg c11] at H
     have c11b0 : ((IntKind.u64.wrap (a0_0 + 1)) == a1_0) = false := beq_eq_false_iff_ne.mpr c11
     have c11b1 : ((IntKind.u64.wrap (a0_0 + 1)) != a1_0) = true := bne_iff_ne.mpr c11
     by_cases c17 : a1_1 = true
     ·subst c17
      have H1 : (some false) = some r := by rw [if_pos rfl] at H; exact H
      clear H
      have H := H1
      clear H1
      obtain rfl := Option.some.inj H
      try (first | exact absurd c3b0 (by decide) | exact absurd c3b2 (by decide) | exact absurd c4b0 (by decide))
      all_goals (go_enter Try.func68, Try.ntmps68)
      all_goals (go_wp2_with (first | ((with_reducible refine gate_dst (N := 2) rfl ?_); refine bxA 2 #[.int .u64 a0_0, .bool true] 63 ?_; intro gb226 hg w18 hbox hb; have n0_ := Aside0.mk (below_step bA hb); have n1_ := Aside0.mk (hbox); have n2_ := Aside0.mk ((by rw [hg]; exact (below_size bA) : w.heap.size ≤ gb226)); have n3_ := Aside0.mk ((by rw [hg]; exact (below_size bA) : w.heap.size ≤ gb226)); clear HB; have HB := n0_; have BK226 := n1_; have GW226 := n2_; have GE226 := n3_; clear n0_ n1_ n2_ n3_ hb hbox hg) | ((with_reducible refine gate_dst (N := 3) rfl ?_); refine bxA 3 #[.int .u64 a1_0, .bool true] 63 ?_; intro gb227 hg w19 hbox hb; have n0_ := Aside0.mk (blk_below (g := gb226) (o := .cells #[.int .u64 a0_0, .bool true] 63 (0, 0)) kA hb); have n1_ := Aside0.mk (below_step bA hb); have n2_ := Aside0.mk (hbox); have n3_ := Aside0.mk ((by rw [hg]; exact (below_size bA) : w.heap.size ≤ gb227)); have n4_ := Aside0.mk ((by rw [hg]; exact (below_size bA) : w.heap.size ≤ gb227)); have n5_ := Aside0.mk ((by rw [hg]; exact Nat.ne_of_lt (blk_lt (g := gb226) (o := .cells #[.int .u64 a0_0, .bool true] 63 (0, 0)) kA) : gb226 ≠ gb227)); have n6_ := Aside0.mk ((by rw [hg]; exact Nat.ne_of_gt (blk_lt (g := gb226) (o := .cells #[.int .u64 a0_0, .bool true] 63 (0, 0)) kA) : gb227 ≠ gb226)); clear BK226 HB; have BK226 := n0_; have HB := n1_; have BK227 := n2_; have GW227 := n3_; have GE227 := n4_; have NB226_227 := n5_; have NB227_226 := n6_; clear n0_ n1_ n2_ n3_ n4_ n5_ n6_ hb hbox hg; have hnb20 := NB226_227.out; have hnc20 := NB227_226.out; have hcz21_0 : w19.cell? ⟨gb226, 0, none⟩ = some (.int .u64 a0_0) := (blk_cell BK226.out 0).trans rfl; have hcz21_1 : w19.cell? ⟨gb226, 1, none⟩ = some (.bool true) := (blk_cell BK226.out 1).trans rfl; have hfz21_0 := blk_frozen BK226.out 0; have hfz21_1 := blk_frozen BK226.out 1; have hcz22_0 : w19.cell? ⟨gb227, 0, none⟩ = some (.int .u64 a1_0) := (blk_cell BK227.out 0).trans rfl; have hcz22_1 : w19.cell? ⟨gb227, 1, none⟩ = some (.bool true) := (blk_cell BK227.out 1).trans rfl; have hfz22_0 := blk_frozen BK227.out 0; have hfz22_1 := blk_frozen BK227.out 1)))
      all_goals (go_ret)
      all_goals (exact ⟨by first | rfl | (simp [errW_none, errW_some] <;> rfl) | (simp [*, errW_none, errW_some] <;> rfl), bA⟩)
     ·replace c17 := Bool.eq_false_iff.mpr c17
      subst c17
      have H1 : (some (a0_0 == 18446744073709551615)) = some r := by rw [if_neg (show ¬ (false = true) by decide)] at H; exact H
      clear H
      have H := H1
      clear H1
      obtain rfl := Option.some.inj H
      try (first | exact absurd c3b0 (by decide) | exact absurd c3b2 (by decide) | exact absurd c4b0 (by decide))
      all_goals (go_enter Try.func68, Try.ntmps68)
      all_goals (go_wp2_with (first | ((with_reducible refine gate_dst (N := 2) rfl ?_); refine bxA 2 #[.int .u64 a0_0, .bool true] 63 ?_; intro gb226 hg w23 hbox hb; have n0_ := Aside0.mk (below_step bA hb); have n1_ := Aside0.mk (hbox); have n2_ := Aside0.mk ((by rw [hg]; exact (below_size bA) : w.heap.size ≤ gb226)); have n3_ := Aside0.mk ((by rw [hg]; exact (below_size bA) : w.heap.size ≤ gb226)); clear HB; have HB := n0_; have BK226 := n1_; have GW226 := n2_; have GE226 := n3_; clear n0_ n1_ n2_ n3_ hb hbox hg) | ((with_reducible refine gate_dst (N := 3) rfl ?_); refine bxA 3 #[.int .u64 a1_0, .bool false] 63 ?_; intro gb227 hg w24 hbox hb; have n0_ := Aside0.mk (blk_below (g := gb226) (o := .cells #[.int .u64 a0_0, .bool true] 63 (0, 0)) kA hb); have n1_ := Aside0.mk (below_step bA hb); have n2_ := Aside0.mk (hbox); have n3_ := Aside0.mk ((by rw [hg]; exact (below_size bA) : w.heap.size ≤ gb227)); have n4_ := Aside0.mk ((by rw [hg]; exact (below_size bA) : w.heap.size ≤ gb227)); have n5_ := Aside0.mk ((by rw [hg]; exact Nat.ne_of_lt (blk_lt (g := gb226) (o := .cells #[.int .u64 a0_0, .bool true] 63 (0, 0)) kA) : gb226 ≠ gb227)); have n6_ := Aside0.mk ((by rw [hg]; exact Nat.ne_of_gt (blk_lt (g := gb226) (o := .cells #[.int .u64 a0_0, .bool true] 63 (0, 0)) kA) : gb227 ≠ gb226)); clear BK226 HB; have BK226 := n0_; have HB := n1_; have BK227 := n2_; have GW227 := n3_; have GE227 := n4_; have NB226_227 := n5_; have NB227_226 := n6_; clear n0_ n1_ n2_ n3_ n4_ n5_ n6_ hb hbox hg; have hnb25 := NB226_227.out; have hnc25 := NB227_226.out; have hcz26_0 : w24.cell? ⟨gb226, 0, none⟩ = some (.int .u64 a0_0) := (blk_cell BK226.out 0).trans rfl; have hcz26_1 : w24.cell? ⟨gb226, 1, none⟩ = some (.bool true) := (blk_cell BK226.out 1).trans rfl; have hfz26_0 := blk_frozen BK226.out 0; have hfz26_1 := blk_frozen BK226.out 1; have hcz27_0 : w24.cell? ⟨gb227, 0, none⟩ = some (.int .u64 a1_0) := (blk_cell BK227.out 0).trans rfl; have hcz27_1 : w24.cell? ⟨gb227, 1, none⟩ = some (.bool false) := (blk_cell BK227.out 1).trans rfl; have hfz27_0 := blk_frozen BK227.out 0; have hfz27_1 := blk_frozen BK227.out 1)))
      all_goals (go_ret)
      all_goals (exact ⟨by first | rfl | (simp [errW_none, errW_some] <;> rfl) | (simp [*, errW_none, errW_some] <;> rfl), bA⟩)
   ·replace c10 := Bool.eq_false_iff.mpr c10
    subst c10
    have H1 : (some false) = some r := by rw [if_neg (show ¬ (false = true) by decide)] at H; exact H
    clear H
    have H := H1
    clear H1
    obtain rfl := Option.some.inj H
    try (first | exact absurd c3b0 (by decide) | exact absurd c3b2 (by decide) | exact absurd c4b0 (by decide))
    all_goals (go_enter Try.func68, Try.ntmps68)
    all_goals (go_wp2_with (first | ((with_reducible refine gate_dst (N := 2) rfl ?_); refine bxA 2 #[.int .u64 a0_0, .bool false] 63 ?_; intro gb226 hg w28 hbox hb; have n0_ := Aside0.mk (below_step bA hb); have n1_ := Aside0.mk (hbox); have n2_ := Aside0.mk ((by rw [hg]; exact (below_size bA) : w.heap.size ≤ gb226)); have n3_ := Aside0.mk ((by rw [hg]; exact (below_size bA) : w.heap.size ≤ gb226)); clear HB; have HB := n0_; have BK226 := n1_; have GW226 := n2_; have GE226 := n3_; clear n0_ n1_ n2_ n3_ hb hbox hg) | ((with_reducible refine gate_dst (N := 3) rfl ?_); refine bxA 3 #[.int .u64 a1_0, .bool a1_1] 63 ?_; intro gb227 hg w29 hbox hb; have n0_ := Aside0.mk (blk_below (g := gb226) (o := .cells #[.int .u64 a0_0, .bool false] 63 (0, 0)) kA hb); have n1_ := Aside0.mk (below_step bA hb); have n2_ := Aside0.mk (hbox); have n3_ := Aside0.mk ((by rw [hg]; exact (below_size bA) : w.heap.size ≤ gb227)); have n4_ := Aside0.mk ((by rw [hg]; exact (below_size bA) : w.heap.size ≤ gb227)); have n5_ := Aside0.mk ((by rw [hg]; exact Nat.ne_of_lt (blk_lt (g := gb226) (o := .cells #[.int .u64 a0_0, .bool false] 63 (0, 0)) kA) : gb226 ≠ gb227)); have n6_ := Aside0.mk ((by rw [hg]; exact Nat.ne_of_gt (blk_lt (g := gb226) (o := .cells #[.int .u64 a0_0, .bool false] 63 (0, 0)) kA) : gb227 ≠ gb226)); clear BK226 HB; have BK226 := n0_; have HB := n1_; have BK227 := n2_; have GW227 := n3_; have GE227 := n4_; have NB226_227 := n5_; have NB227_226 := n6_; clear n0_ n1_ n2_ n3_ n4_ n5_ n6_ hb hbox hg; have hnb30 := NB226_227.out; have hnc30 := NB227_226.out; have hcz31_0 : w29.cell? ⟨gb226, 0, none⟩ = some (.int .u64 a0_0) := (blk_cell BK226.out 0).trans rfl; have hcz31_1 : w29.cell? ⟨gb226, 1, none⟩ = some (.bool false) := (blk_cell BK226.out 1).trans rfl; have hfz31_0 := blk_frozen BK226.out 0; have hfz31_1 := blk_frozen BK226.out 1; have hcz32_0 : w29.cell? ⟨gb227, 0, none⟩ = some (.int .u64 a1_0) := (blk_cell BK227.out 0).trans rfl; have hcz32_1 : w29.cell? ⟨gb227, 1, none⟩ = some (.bool a1_1) := (blk_cell BK227.out 1).trans rfl; have hfz32_0 := blk_frozen BK227.out 0; have hfz32_1 := blk_frozen BK227.out 1)))
    all_goals (go_ret)
    all_goals (exact ⟨by first | rfl | (simp [errW_none, errW_some] <;> rfl) | (simp [*, errW_none, errW_some] <;> rfl), bA⟩)
 ·rw [if_neg c3] at H
  have c3b0 : (a0_1 == a1_1) = false := by simpa using c3
  (try (have c3b1 : decide (a0_1 = a1_1) = false := by simpa using c3))
  (try (have c3b2 : (a0_1 == a1_1) = false := by simpa using c3))
  (try (have c3b3 : ¬ (a0_1 = a1_1) := by simpa using c3))
  clear c3
  by_cases c33 : a0_1 = true
  ·subst c33
   have H1 : (if a1_1 = true then (some false) else (some (a0_0 == 18446744073709551615))) = some r := by rw [if_pos rfl] at H; exact H
   clear H
   have H := H1
   clear H1
   by_cases c34 : a1_1 = true
   ·subst c34
    have H1 : (some false) = some r := by rw [if_pos rfl] at H; exact H
    clear H
    have H := H1
    clear H1
    obtain rfl := Option.some.inj H
    try (first | exact absurd c3b0 (by decide) | exact absurd c3b2 (by decide))
    all_goals (go_enter Try.func68, Try.ntmps68)
    all_goals (go_wp2_with (first | ((with_reducible refine gate_dst (N := 2) rfl ?_); refine bxA 2 #[.int .u64 a0_0, .bool true] 63 ?_; intro gb226 hg w35 hbox hb; have n0_ := Aside0.mk (below_step bA hb); have n1_ := Aside0.mk (hbox); have n2_ := Aside0.mk ((by rw [hg]; exact (below_size bA) : w.heap.size ≤ gb226)); have n3_ := Aside0.mk ((by rw [hg]; exact (below_size bA) : w.heap.size ≤ gb226)); clear HB; have HB := n0_; have BK226 := n1_; have GW226 := n2_; have GE226 := n3_; clear n0_ n1_ n2_ n3_ hb hbox hg) | ((with_reducible refine gate_dst (N := 3) rfl ?_); refine bxA 3 #[.int .u64 a1_0, .bool true] 63 ?_; intro gb227 hg w36 hbox hb; have n0_ := Aside0.mk (blk_below (g := gb226) (o := .cells #[.int .u64 a0_0, .bool true] 63 (0, 0)) kA hb); have n1_ := Aside0.mk (below_step bA hb); have n2_ := Aside0.mk (hbox); have n3_ := Aside0.mk ((by rw [hg]; exact (below_size bA) : w.heap.size ≤ gb227)); have n4_ := Aside0.mk ((by rw [hg]; exact (below_size bA) : w.heap.size ≤ gb227)); have n5_ := Aside0.mk ((by rw [hg]; exact Nat.ne_of_lt (blk_lt (g := gb226) (o := .cells #[.int .u64 a0_0, .bool true] 63 (0, 0)) kA) : gb226 ≠ gb227)); have n6_ := Aside0.mk ((by rw [hg]; exact Nat.ne_of_gt (blk_lt (g := gb226) (o := .cells #[.int .u64 a0_0, .bool true] 63 (0, 0)) kA) : gb227 ≠ gb226)); clear BK226 HB; have BK226 := n0_; have HB := n1_; have BK227 := n2_; have GW227 := n3_; have GE227 := n4_; have NB226_227 := n5_; have NB227_226 := n6_; clear n0_ n1_ n2_ n3_ n4_ n5_ n6_ hb hbox hg; have hnb37 := NB226_227.out; have hnc37 := NB227_226.out; have hcz38_0 : w36.cell? ⟨gb226, 0, none⟩ = some (.int .u64 a0_0) := (blk_cell BK226.out 0).trans rfl; have hcz38_1 : w36.cell? ⟨gb226, 1, none⟩ = some (.bool true) := (blk_cell BK226.out 1).trans rfl; have hfz38_0 := blk_frozen BK226.out 0; have hfz38_1 := blk_frozen BK226.out 1; have hcz39_0 : w36.cell? ⟨gb227, 0, none⟩ = some (.int .u64 a1_0) := (blk_cell BK227.out 0).trans rfl; have hcz39_1 : w36.cell? ⟨gb227, 1, none⟩ = some (.bool true) := (blk_cell BK227.out 1).trans rfl; have hfz39_0 := blk_frozen BK227.out 0; have hfz39_1 := blk_frozen BK227.out 1)))
    all_goals (go_ret)
    all_goals (exact ⟨by first | rfl | (simp [errW_none, errW_some] <;> rfl) | (simp [*, errW_none, errW_some] <;> rfl), bA⟩)
   ·replace c34 := Bool.eq_false_iff.mpr c34
    subst c34
    have H1 : (some (a0_0 == 18446744073709551615)) = some r := by rw [if_neg (show ¬ (false = true) by decide)] at H; exact H
    clear H
    have H := H1
    clear H1
    obtain rfl := Option.some.inj H
    try (first | exact absurd c3b0 (by decide) | exact absurd c3b2 (by decide))
    all_goals (go_enter Try.func68, Try.ntmps68)
    all_goals (go_wp2_with (first | ((with_reducible refine gate_dst (N := 2) rfl ?_); refine bxA 2 #[.int .u64 a0_0, .bool true] 63 ?_; intro gb226 hg w40 hbox hb; have n0_ := Aside0.mk (below_step bA hb); have n1_ := Aside0.mk (hbox); have n2_ := Aside0.mk ((by rw [hg]; exact (below_size bA) : w.heap.size ≤ gb226)); have n3_ := Aside0.mk ((by rw [hg]; exact (below_size bA) : w.heap.size ≤ gb226)); clear HB; have HB := n0_; have BK226 := n1_; have GW226 := n2_; have GE226 := n3_; clear n0_ n1_ n2_ n3_ hb hbox hg) | ((with_reducible refine gate_dst (N := 3) rfl ?_); refine bxA 3 #[.int .u64 a1_0, .bool false] 63 ?_; intro gb227 hg w41 hbox hb; have n0_ := Aside0.mk (blk_below (g := gb226) (o := .cells #[.int .u64 a0_0, .bool true] 63 (0, 0)) kA hb); have n1_ := Aside0.mk (below_step bA hb); have n2_ := Aside0.mk (hbox); have n3_ := Aside0.mk ((by rw [hg]; exact (below_size bA) : w.heap.size ≤ gb227)); have n4_ := Aside0.mk ((by rw [hg]; exact (below_size bA) : w.heap.size ≤ gb227)); have n5_ := Aside0.mk ((by rw [hg]; exact Nat.ne_of_lt (blk_lt (g := gb226) (o := .cells #[.int .u64 a0_0, .bool true] 63 (0, 0)) kA) : gb226 ≠ gb227)); have n6_ := Aside0.mk ((by rw [hg]; exact Nat.ne_of_gt (blk_lt (g := gb226) (o := .cells #[.int .u64 a0_0, .bool true] 63 (0, 0)) kA) : gb227 ≠ gb226)); clear BK226 HB; have BK226 := n0_; have HB := n1_; have BK227 := n2_; have GW227 := n3_; have GE227 := n4_; have NB226_227 := n5_; have NB227_226 := n6_; clear n0_ n1_ n2_ n3_ n4_ n5_ n6_ hb hbox hg; have hnb42 := NB226_227.out; have hnc42 := NB227_226.out; have hcz43_0 : w41.cell? ⟨gb226, 0, none⟩ = some (.int .u64 a0_0) := (blk_cell BK226.out 0).trans rfl; have hcz43_1 : w41.cell? ⟨gb226, 1, none⟩ = some (.bool true) := (blk_cell BK226.out 1).trans rfl; have hfz43_0 := blk_frozen BK226.out 0; have hfz43_1 := blk_frozen BK226.out 1; have hcz44_0 : w41.cell? ⟨gb227, 0, none⟩ = some (.int .u64 a1_0) := (blk_cell BK227.out 0).trans rfl; have hcz44_1 : w41.cell? ⟨gb227, 1, none⟩ = some (.bool false) := (blk_cell BK227.out 1).trans rfl; have hfz44_0 := blk_frozen BK227.out 0; have hfz44_1 := blk_frozen BK227.out 1)))
    all_goals (go_ret)
    all_goals (exact ⟨by first | rfl | (simp [errW_none, errW_some] <;> rfl) | (simp [*, errW_none, errW_some] <;> rfl), bA⟩)
  ·replace c33 := Bool.eq_false_iff.mpr c33
   subst c33
   have H1 : (some false) = some r := by rw [if_neg (show ¬ (false = true) by decide)] at H; exact H
   clear H
   have H := H1
   clear H1
   obtain rfl := Option.some.inj H
   try (first | exact absurd c3b0 (by decide) | exact absurd c3b2 (by decide))
   all_goals (go_enter Try.func68, Try.ntmps68)
   all_goals (go_wp2_with (first | ((with_reducible refine gate_dst (N := 2) rfl ?_); refine bxA 2 #[.int .u64 a0_0, .bool false] 63 ?_; intro gb226 hg w45 hbox hb; have n0_ := Aside0.mk (below_step bA hb); have n1_ := Aside0.mk (hbox); have n2_ := Aside0.mk ((by rw [hg]; exact (below_size bA) : w.heap.size ≤ gb226)); have n3_ := Aside0.mk ((by rw [hg]; exact (below_size bA) : w.heap.size ≤ gb226)); clear HB; have HB := n0_; have BK226 := n1_; have GW226 := n2_; have GE226 := n3_; clear n0_ n1_ n2_ n3_ hb hbox hg) | ((with_reducible refine gate_dst (N := 3) rfl ?_); refine bxA 3 #[.int .u64 a1_0, .bool a1_1] 63 ?_; intro gb227 hg w46 hbox hb; have n0_ := Aside0.mk (blk_below (g := gb226) (o := .cells #[.int .u64 a0_0, .bool false] 63 (0, 0)) kA hb); have n1_ := Aside0.mk (below_step bA hb); have n2_ := Aside0.mk (hbox); have n3_ := Aside0.mk ((by rw [hg]; exact (below_size bA) : w.heap.size ≤ gb227)); have n4_ := Aside0.mk ((by rw [hg]; exact (below_size bA) : w.heap.size ≤ gb227)); have n5_ := Aside0.mk ((by rw [hg]; exact Nat.ne_of_lt (blk_lt (g := gb226) (o := .cells #[.int .u64 a0_0, .bool false] 63 (0, 0)) kA) : gb226 ≠ gb227)); have n6_ := Aside0.mk ((by rw [hg]; exact Nat.ne_of_gt (blk_lt (g := gb226) (o := .cells #[.int .u64 a0_0, .bool false] 63 (0, 0)) kA) : gb227 ≠ gb226)); clear BK226 HB; have BK226 := n0_; have HB := n1_; have BK227 := n2_; have GW227 := n3_; have GE227 := n4_; have NB226_227 := n5_; have NB227_226 := n6_; clear n0_ n1_ n2_ n3_ n4_ n5_ n6_ hb hbox hg; have hnb47 := NB226_227.out; have hnc47 := NB227_226.out; have hcz48_0 : w46.cell? ⟨gb226, 0, none⟩ = some (.int .u64 a0_0) := (blk_cell BK226.out 0).trans rfl; have hcz48_1 : w46.cell? ⟨gb226, 1, none⟩ = some (.bool false) := (blk_cell BK226.out 1).trans rfl; have hfz48_0 := blk_frozen BK226.out 0; have hfz48_1 := blk_frozen BK226.out 1; have hcz49_0 : w46.cell? ⟨gb227, 0, none⟩ = some (.int .u64 a1_0) := (blk_cell BK227.out 0).trans rfl; have hcz49_1 : w46.cell? ⟨gb227, 1, none⟩ = some (.bool a1_1) := (blk_cell BK227.out 1).trans rfl; have hfz49_0 := blk_frozen BK227.out 0; have hfz49_1 := blk_frozen BK227.out 1)))
   all_goals (go_ret)
   all_goals (exact ⟨by first | rfl | (simp [errW_none, errW_some] <;> rfl) | (simp [*, errW_none, errW_some] <;> rfl), bA⟩)

end Go.Proofs.Ytcolhngdhlamkaa.GFL
