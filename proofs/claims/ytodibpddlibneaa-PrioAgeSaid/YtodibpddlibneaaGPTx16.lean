-- Laid by a program of this session (wip/tools/pr.py): contracts and pure functions; Lean checks it.
import Derived.Test.YtodibpddlibneaaGPTx0
import Derived.Test.YtodibpddlibneaaGPTx9
import Derived.Test.YtodibpddlibneaaGPTx10
import Derived.Test.YtodibpddlibneaaGPTx12
import Derived.Test.YtodibpddlibneaaGPTx13
namespace Go.Proofs.Ytodibpddlibneaa.GPT
open Go.RowKit Go.Proofs.YtodibpddlibneaaW.PrintWords Go.Proofs.YtodibpddlibneaaW.PrintLast Go.Proofs.YtodibpddlibneaaW.PrintMore
attribute [local go_sem] max2_int min2_int max_two min_two max_three min_three max_four min_four   -- for this text's walks alone
set_option linter.unusedVariables false
set_option linter.unusedSimpArgs false

/-! ### backfillref11_Lead: function 15 -/
def backfillref11_Lead.f (k : Nat) (a0_0 : Int) (a0_1 : Int) (a0_2 : Int) (a0_3 : Int) (a0_4 : Int) (a0_5 : Int) (a0_6 : Int) (a0_7 : Int) : Option (Int) := (backfillref11_Check.f k a0_0 a0_1 a0_2 a0_3 a0_4 a0_5 a0_6 a0_7).bind fun t320 => (if t320 = 0 then ((backfillref11_lead.f a0_0 a0_1 a0_2 a0_3 a0_4 a0_5 a0_6 a0_7).bind fun t321 => (some t321)) else (some 0))
theorem backfillref11_Lead.mono : ∀ a0 a1 a2 a3 a4 a5 a6 a7 k, LeO (backfillref11_Lead.f k a0 a1 a2 a3 a4 a5 a6 a7) (backfillref11_Lead.f (k + 1) a0 a1 a2 a3 a4 a5 a6 a7) := by
 intro a0 a1 a2 a3 a4 a5 a6 a7 k
 unfold backfillref11_Lead.f
 repeat' first
   | (with_reducible exact backfillref11_Check.mono _ _ _ _ _ _ _ _ _)
   | (with_reducible exact LeO.refl _)
   | (with_reducible exact LeO.none _)
   | (with_reducible refine LeO.ite ?_ ?_)
   | (with_reducible refine LeO.bind ?_ (fun _ => ?_))
   | exact backfillref11_Check.mono _ _ _ _ _ _ _ _ _
   | exact LeO.none _
   | refine LeO.ite ?_ ?_
   | refine LeO.bind ?_ (fun _ => ?_)
set_option maxHeartbeats 8000000 in
set_option maxRecDepth 100000 in
theorem backfillref11_Lead.calls (k : Nat) (a0_0 : Int) (a0_1 : Int) (a0_2 : Int) (a0_3 : Int) (a0_4 : Int) (a0_5 : Int) (a0_6 : Int) (a0_7 : Int) (r : Int) (w : World) (h : backfillref11_Lead.f k a0_0 a0_1 a0_2 a0_3 a0_4 a0_5 a0_6 a0_7 = some r) :
  Calls Try.prog 15 #[.agg #[.int .i64 a0_0, .int .i64 a0_1, .int .i64 a0_2, .int .i64 a0_3, .int .i64 a0_4, .int .i64 a0_5, .int .i64 a0_6, .int .i64 a0_7]] w fun e w' => e = .returned (.int .i64 r) ∧ Below w.heap.size w w' := by
 have hu31 := Try.underlying31
 have HB := Aside0.mk (Below.refl w.heap.size w)
 have H : ((backfillref11_Check.f k a0_0 a0_1 a0_2 a0_3 a0_4 a0_5 a0_6 a0_7).bind fun t320 => (if t320 = 0 then ((backfillref11_lead.f a0_0 a0_1 a0_2 a0_3 a0_4 a0_5 a0_6 a0_7).bind fun t321 => (some t321)) else (some 0))) = some r := h
 clear h; replace H := Option.bind_eq_some_iff.mp H; obtain ⟨t320, A20, H⟩ := H; replace H : (if t320 = 0 then ((backfillref11_lead.f a0_0 a0_1 a0_2 a0_3 a0_4 a0_5 a0_6 a0_7).bind fun t321 => (some t321)) else (some 0)) = some r := H; have A2 := Aside0.mk A20; clear A20
 by_cases c3 : t320 = 0
 ·rw [if_pos c3] at H
  have c3b0 : (t320 == 0) = true := beq_iff_eq.mpr c3
  have c3b1 : (t320 != 0) = false := bne_eq_false_iff_eq.mpr c3
  clear c3; replace H := Option.bind_eq_some_iff.mp H; obtain ⟨t321, A40, H⟩ := H; replace H : (some t321) = some r := H; have A4 := Aside0.mk A40; clear A40
  obtain rfl := Option.some.inj H
  go_enter Try.func15, Try.ntmps15
  go_wp2_with (first | ((with_reducible refine gate_dst (N := 1) rfl ?_); refine bxA 1 #[.int .i64 a0_0, .int .i64 a0_1, .int .i64 a0_2, .int .i64 a0_3, .int .i64 a0_4, .int .i64 a0_5, .int .i64 a0_6, .int .i64 a0_7] 31 ?_; intro gb319 hg w5 hbox hb; have n0_ := Aside0.mk (below_step bA hb); have n1_ := Aside0.mk (hbox); have n2_ := Aside0.mk (gwA hg bA); have n3_ := Aside0.mk (gwA hg bA); clear HB; have HB := n0_; have BK319 := n1_; have GW319 := n2_; have GE319 := n3_; clear n0_ n1_ n2_ n3_ hb hbox hg; have hcz6_0 : w5.cell? ⟨gb319, 0, none⟩ = some (.int .i64 a0_0) := (blk_cell BK319.out 0).trans rfl; have hcz6_1 : w5.cell? ⟨gb319, 1, none⟩ = some (.int .i64 a0_1) := (blk_cell BK319.out 1).trans rfl; have hcz6_2 : w5.cell? ⟨gb319, 2, none⟩ = some (.int .i64 a0_2) := (blk_cell BK319.out 2).trans rfl; have hcz6_3 : w5.cell? ⟨gb319, 3, none⟩ = some (.int .i64 a0_3) := (blk_cell BK319.out 3).trans rfl; have hcz6_4 : w5.cell? ⟨gb319, 4, none⟩ = some (.int .i64 a0_4) := (blk_cell BK319.out 4).trans rfl; have hcz6_5 : w5.cell? ⟨gb319, 5, none⟩ = some (.int .i64 a0_5) := (blk_cell BK319.out 5).trans rfl; have hcz6_6 : w5.cell? ⟨gb319, 6, none⟩ = some (.int .i64 a0_6) := (blk_cell BK319.out 6).trans rfl; have hcz6_7 : w5.cell? ⟨gb319, 7, none⟩ = some (.int .i64 a0_7) := (blk_cell BK319.out 7).trans rfl; have hfz6_0 := blk_frozen BK319.out 0; have hfz6_1 := blk_frozen BK319.out 1; have hfz6_2 := blk_frozen BK319.out 2; have hfz6_3 := blk_frozen BK319.out 3; have hfz6_4 := blk_frozen BK319.out 4; have hfz6_5 := blk_frozen BK319.out 5; have hfz6_6 := blk_frozen BK319.out 6; have hfz6_7 := blk_frozen BK319.out 7) | ((with_reducible refine gate_callee (f := 14) rfl ?_); refine goesL_ (some 4) rfl rfl Try.func14 (by kernel_rfl) rfl #[.agg #[.int .i64 a0_0, .int .i64 a0_1, .int .i64 a0_2, .int .i64 a0_3, .int .i64 a0_4, .int .i64 a0_5, .int .i64 a0_6, .int .i64 a0_7]] rfl aA ?_; (with_reducible refine (backfillref11_Check.calls k a0_0 a0_1 a0_2 a0_3 a0_4 a0_5 a0_6 a0_7 t320 _ A2.out).mono ?_); rintro e w7 ⟨rfl, hb⟩; refine ⟨_, rfl, ?_⟩; have n0_ := Aside0.mk (blk_below (g := gb319) kA hb); have n1_ := Aside0.mk (below_step bA hb); clear BK319 HB; have BK319 := n0_; have HB := n1_; clear n0_ n1_; (try clear hb); have hcz8_0 : w7.cell? ⟨gb319, 0, none⟩ = some (.int .i64 a0_0) := (blk_cell BK319.out 0).trans rfl; have hcz8_1 : w7.cell? ⟨gb319, 1, none⟩ = some (.int .i64 a0_1) := (blk_cell BK319.out 1).trans rfl; have hcz8_2 : w7.cell? ⟨gb319, 2, none⟩ = some (.int .i64 a0_2) := (blk_cell BK319.out 2).trans rfl; have hcz8_3 : w7.cell? ⟨gb319, 3, none⟩ = some (.int .i64 a0_3) := (blk_cell BK319.out 3).trans rfl; have hcz8_4 : w7.cell? ⟨gb319, 4, none⟩ = some (.int .i64 a0_4) := (blk_cell BK319.out 4).trans rfl; have hcz8_5 : w7.cell? ⟨gb319, 5, none⟩ = some (.int .i64 a0_5) := (blk_cell BK319.out 5).trans rfl; have hcz8_6 : w7.cell? ⟨gb319, 6, none⟩ = some (.int .i64 a0_6) := (blk_cell BK319.out 6).trans rfl; have hcz8_7 : w7.cell? ⟨gb319, 7, none⟩ = some (.int .i64 a0_7) := (blk_cell BK319.out 7).trans rfl; have hfz8_0 := blk_frozen BK319.out 0; have hfz8_1 := blk_frozen BK319.out 1; have hfz8_2 := blk_frozen BK319.out 2; have hfz8_3 := blk_frozen BK319.out 3; have hfz8_4 := blk_frozen BK319.out 4; have hfz8_5 := blk_frozen BK319.out 5; have hfz8_6 := blk_frozen BK319.out 6; have hfz8_7 := blk_frozen BK319.out 7) | ((with_reducible refine gate_callee (f := 31) rfl ?_); refine goesL_ (some 7) rfl rfl Try.func31 (by kernel_rfl) rfl #[.agg #[.int .i64 a0_0, .int .i64 a0_1, .int .i64 a0_2, .int .i64 a0_3, .int .i64 a0_4, .int .i64 a0_5, .int .i64 a0_6, .int .i64 a0_7]] rfl aA ?_; (with_reducible refine (backfillref11_lead.calls a0_0 a0_1 a0_2 a0_3 a0_4 a0_5 a0_6 a0_7 t321 _ A4.out).mono ?_); rintro e w9 ⟨rfl, hb⟩; refine ⟨_, rfl, ?_⟩; have n0_ := Aside0.mk (blk_below (g := gb319) kA hb); have n1_ := Aside0.mk (below_step bA hb); clear BK319 HB; have BK319 := n0_; have HB := n1_; clear n0_ n1_; (try clear hb)))
  go_ret
  exact ⟨by first | rfl | (simp [errW_none, errW_some] <;> rfl) | (simp [*, errW_none, errW_some] <;> rfl), bA⟩
 ·rw [if_neg c3] at H
  have c3b0 : (t320 == 0) = false := beq_eq_false_iff_ne.mpr c3
  have c3b1 : (t320 != 0) = true := bne_iff_ne.mpr c3
  obtain rfl := Option.some.inj H
  go_enter Try.func15, Try.ntmps15
  go_wp2_with (first | ((with_reducible refine gate_dst (N := 1) rfl ?_); refine bxA 1 #[.int .i64 a0_0, .int .i64 a0_1, .int .i64 a0_2, .int .i64 a0_3, .int .i64 a0_4, .int .i64 a0_5, .int .i64 a0_6, .int .i64 a0_7] 31 ?_; intro gb319 hg w10 hbox hb; have n0_ := Aside0.mk (below_step bA hb); have n1_ := Aside0.mk (hbox); have n2_ := Aside0.mk (gwA hg bA); have n3_ := Aside0.mk (gwA hg bA); clear HB; have HB := n0_; have BK319 := n1_; have GW319 := n2_; have GE319 := n3_; clear n0_ n1_ n2_ n3_ hb hbox hg; have hcz11_0 : w10.cell? ⟨gb319, 0, none⟩ = some (.int .i64 a0_0) := (blk_cell BK319.out 0).trans rfl; have hcz11_1 : w10.cell? ⟨gb319, 1, none⟩ = some (.int .i64 a0_1) := (blk_cell BK319.out 1).trans rfl; have hcz11_2 : w10.cell? ⟨gb319, 2, none⟩ = some (.int .i64 a0_2) := (blk_cell BK319.out 2).trans rfl; have hcz11_3 : w10.cell? ⟨gb319, 3, none⟩ = some (.int .i64 a0_3) := (blk_cell BK319.out 3).trans rfl; have hcz11_4 : w10.cell? ⟨gb319, 4, none⟩ = some (.int .i64 a0_4) := (blk_cell BK319.out 4).trans rfl; have hcz11_5 : w10.cell? ⟨gb319, 5, none⟩ = some (.int .i64 a0_5) := (blk_cell BK319.out 5).trans rfl; have hcz11_6 : w10.cell? ⟨gb319, 6, none⟩ = some (.int .i64 a0_6) := (blk_cell BK319.out 6).trans rfl; have hcz11_7 : w10.cell? ⟨gb319, 7, none⟩ = some (.int .i64 a0_7) := (blk_cell BK319.out 7).trans rfl; have hfz11_0 := blk_frozen BK319.out 0; have hfz11_1 := blk_frozen BK319.out 1; have hfz11_2 := blk_frozen BK319.out 2; have hfz11_3 := blk_frozen BK319.out 3; have hfz11_4 := blk_frozen BK319.out 4; have hfz11_5 := blk_frozen BK319.out 5; have hfz11_6 := blk_frozen BK319.out 6; have hfz11_7 := blk_frozen BK319.out 7) | ((with_reducible refine gate_callee (f := 14) rfl ?_); refine goesL_ (some 4) rfl rfl Try.func14 (by kernel_rfl) rfl #[.agg #[.int .i64 a0_0, .int .i64 a0_1, .int .i64 a0_2, .int .i64 a0_3, .int .i64 a0_4, .int .i64 a0_5, .int .i64 a0_6, .int .i64 a0_7]] rfl aA ?_; (with_reducible refine (backfillref11_Check.calls k a0_0 a0_1 a0_2 a0_3 a0_4 a0_5 a0_6 a0_7 t320 _ A2.out).mono ?_); rintro e w12 ⟨rfl, hb⟩; refine ⟨_, rfl, ?_⟩; have n0_ := Aside0.mk (blk_below (g := gb319) kA hb); have n1_ := Aside0.mk (below_step bA hb); clear BK319 HB; have BK319 := n0_; have HB := n1_; clear n0_ n1_; (try clear hb)))
  go_ret
  exact ⟨by first | rfl | (simp [errW_none, errW_some] <;> rfl) | (simp [*, errW_none, errW_some] <;> rfl), bA⟩

end Go.Proofs.Ytodibpddlibneaa.GPT
