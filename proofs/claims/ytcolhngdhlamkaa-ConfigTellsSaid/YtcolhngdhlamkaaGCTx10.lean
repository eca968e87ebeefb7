-- Laid by a program of this session (wip/tools/pr.py): contracts and pure functions; Lean checks it.
import Derived.Test.YtcolhngdhlamkaaGCTx0
import Derived.Test.YtcolhngdhlamkaaGCTx2
import Derived.Test.YtcolhngdhlamkaaGCTx9
namespace Go.Proofs.Ytcolhngdhlamkaa.GCT
open Go.RowKit Go.Proofs.YtcolhngdhlamkaaW.PrintWords Go.Proofs.YtcolhngdhlamkaaW.PrintLast Go.Proofs.YtcolhngdhlamkaaW.PrintMore
attribute [local go_sem] max2_int min2_int max_two min_two max_three min_three max_four min_four   -- for this text's walks alone
set_option linter.unusedVariables false
set_option linter.unusedSimpArgs false

attribute [local go_sem high] eqA28
/-! ### backfillref01_Add: function 43 -/
def backfillref01_Add.f (a0_0 : Int) (a0_1 : Int) (a1_0 : Int) (a1_1 : Int) : Option (Int × Int × Bool) := if (IntKind.u64.wrap (a0_1 + a1_1)) < a0_1 then (if (IntKind.u64.wrap (a0_0 + a1_0)) ≥ a0_0 then (if ((IntKind.u64.wrap ((IntKind.u64.wrap (a0_0 + a1_0)) + 1)) > 0) then (some (IntKind.u64.wrap ((IntKind.u64.wrap (a0_0 + a1_0)) + 1), IntKind.u64.wrap (a0_1 + a1_1), true)) else ((backfillref01_greatest.f).bind fun bt258 => (some (bt258.1, bt258.2, false)))) else ((backfillref01_greatest.f).bind fun bt260 => (some (bt260.1, bt260.2, false)))) else (if ((IntKind.u64.wrap (a0_0 + a1_0)) ≥ a0_0) then (some (IntKind.u64.wrap (a0_0 + a1_0), IntKind.u64.wrap (a0_1 + a1_1), true)) else ((backfillref01_greatest.f).bind fun bt262 => (some (bt262.1, bt262.2, false))))
set_option maxHeartbeats 8000000 in
set_option maxRecDepth 100000 in
theorem backfillref01_Add.calls (a0_0 : Int) (a0_1 : Int) (a1_0 : Int) (a1_1 : Int) (r1 : Int) (r2 : Int) (r3 : Bool) (w : World) (h : backfillref01_Add.f a0_0 a0_1 a1_0 a1_1 = some (r1, r2, r3)) :
  Calls Try.prog 43 #[.agg #[.int .u64 a0_0, .int .u64 a0_1], .agg #[.int .u64 a1_0, .int .u64 a1_1]] w fun e w' => e = .returned (.tuple #[.agg #[.int .u64 r1, .int .u64 r2], .bool r3]) ∧ Below w.heap.size w w' := by
 have hu28 := Try.underlying28
 have HB := Aside0.mk (Below.refl w.heap.size w)
 have H : (if (IntKind.u64.wrap (a0_1 + a1_1)) < a0_1 then (if (IntKind.u64.wrap (a0_0 + a1_0)) ≥ a0_0 then (if ((IntKind.u64.wrap ((IntKind.u64.wrap (a0_0 + a1_0)) + 1)) > 0) then (some (IntKind.u64.wrap ((IntKind.u64.wrap (a0_0 + a1_0)) + 1), IntKind.u64.wrap (a0_1 + a1_1), true)) else ((backfillref01_greatest.f).bind fun bt258 => (some (bt258.1, bt258.2, false)))) else ((backfillref01_greatest.f).bind fun bt260 => (some (bt260.1, bt260.2, false)))) else (if ((IntKind.u64.wrap (a0_0 + a1_0)) ≥ a0_0) then (some (IntKind.u64.wrap (a0_0 + a1_0), IntKind.u64.wrap (a0_1 + a1_1), true)) else ((backfillref01_greatest.f).bind fun bt262 => (some (bt262.1, bt262.2, false))))) = some (r1, r2, r3) := h
 clear h
 by_cases c3 : (IntKind.u64.wrap (a0_1 + a1_1)) < a0_1
 ·rw [if_pos c3] at H
  have c3b0 : decide ((IntKind.u64.wrap (a0_1 + a1_1)) < a0_1) = true := decide_eq_true c3
  clear c3
  by_cases c4 : (IntKind.u64.wrap (a0_0 + a1_0)) ≥ a0_0
  ·rw [if_pos c4] at H
   have c4b0 : decide (a0_0 ≤ (IntKind.u64.wrap (a0_0 + a1_0))) = true := decide_eq_true c4
   clear c4
   by_cases c5 : ((IntKind.u64.wrap ((IntKind.u64.wrap (a0_0 + a1_0)) + 1)) > 0)
   ·rw [if_pos c5] at H
    have c5b0 : decide (0 < (IntKind.u64.wrap ((IntKind.u64.wrap (a0_0 + a1_0)) + 1))) = true := decide_eq_true c5
    clear c5
    simp only [Option.some.injEq, Prod.mk.injEq] at H
    obtain ⟨rfl, rfl, rfl⟩ := H
    go_enter Try.func43, Try.ntmps43
    go_wp2_with (first | ((with_reducible refine gate_dst (N := 2) rfl ?_); refine bxA 2 #[.int .u64 a0_0, .int .u64 a0_1] 28 ?_; intro gb254 hg w6 hbox hb; have n0_ := Aside0.mk (below_step bA hb); have n1_ := Aside0.mk (hbox); have n2_ := Aside0.mk (gwA hg bA); have n3_ := Aside0.mk (gwA hg bA); clear HB; have HB := n0_; have BK254 := n1_; have GW254 := n2_; have GE254 := n3_; clear n0_ n1_ n2_ n3_ hb hbox hg) | ((with_reducible refine gate_dst (N := 3) rfl ?_); refine bxA 3 #[.int .u64 a1_0, .int .u64 a1_1] 28 ?_; intro gb255 hg w7 hbox hb; have n0_ := Aside0.mk (blk_below (g := gb254) kA hb); have n1_ := Aside0.mk (below_step bA hb); have n2_ := Aside0.mk (hbox); have n3_ := Aside0.mk (gwA hg bA); have n4_ := Aside0.mk (gwA hg bA); have n5_ := Aside0.mk (neA (g := gb254) hg kA); have n6_ := Aside0.mk (neB (g := gb254) hg kA); clear BK254 HB; have BK254 := n0_; have HB := n1_; have BK255 := n2_; have GW255 := n3_; have GE255 := n4_; have NB254_255 := n5_; have NB255_254 := n6_; clear n0_ n1_ n2_ n3_ n4_ n5_ n6_ hb hbox hg) | ((with_reducible refine gate_dst (N := 4) rfl ?_); refine bxA 4 #[.int .u64 0, .int .u64 0] 28 ?_; intro gb256 hg w8 hbox hb; have n0_ := Aside0.mk (blk_below (g := gb254) kA hb); have n1_ := Aside0.mk (blk_below (g := gb255) kA hb); have n2_ := Aside0.mk (below_step bA hb); have n3_ := Aside0.mk (hbox); have n4_ := Aside0.mk (gwA hg bA); have n5_ := Aside0.mk (gwA hg bA); have n6_ := Aside0.mk (neA (g := gb254) hg kA); have n7_ := Aside0.mk (neB (g := gb254) hg kA); have n8_ := Aside0.mk (neA (g := gb255) hg kA); have n9_ := Aside0.mk (neB (g := gb255) hg kA); clear BK254 BK255 HB; have BK254 := n0_; have BK255 := n1_; have HB := n2_; have BK256 := n3_; have GW256 := n4_; have GE256 := n5_; have NB254_256 := n6_; have NB256_254 := n7_; have NB255_256 := n8_; have NB256_255 := n9_; clear n0_ n1_ n2_ n3_ n4_ n5_ n6_ n7_ n8_ n9_ hb hbox hg; have hnb9 := NB254_255.out; have hnc9 := NB255_254.out; have hnb10 := NB254_256.out; have hnc10 := NB256_254.out; have hcz11_0 : w8.cell? ⟨gb254, 0, none⟩ = some (.int .u64 a0_0) := (blk_cell BK254.out 0).trans rfl; have hcz11_1 : w8.cell? ⟨gb254, 1, none⟩ = some (.int .u64 a0_1) := (blk_cell BK254.out 1).trans rfl; have hfz11_0 := blk_frozen BK254.out 0; have hfz11_1 := blk_frozen BK254.out 1; have hnb12 := NB255_256.out; have hnc12 := NB256_255.out; have hcz13_0 : w8.cell? ⟨gb255, 0, none⟩ = some (.int .u64 a1_0) := (blk_cell BK255.out 0).trans rfl; have hcz13_1 : w8.cell? ⟨gb255, 1, none⟩ = some (.int .u64 a1_1) := (blk_cell BK255.out 1).trans rfl; have hfz13_0 := blk_frozen BK255.out 0; have hfz13_1 := blk_frozen BK255.out 1) | ((with_reducible refine gate_dst (N := 6) rfl ?_); refine bxA 6 #[.int .u64 0, .int .u64 0] 28 ?_; intro gb257 hg w14 hbox hb; have n0_ := Aside0.mk (blk_below (g := gb254) kA hb); have n1_ := Aside0.mk (blk_below (g := gb255) kA hb); have n2_ := Aside0.mk (blk_below (g := gb256) kA hb); have n3_ := Aside0.mk (below_step bA hb); have n4_ := Aside0.mk (hbox); have n5_ := Aside0.mk (gwA hg bA); have n6_ := Aside0.mk (gwA hg bA); have n7_ := Aside0.mk (neA (g := gb254) hg kA); have n8_ := Aside0.mk (neB (g := gb254) hg kA); have n9_ := Aside0.mk (neA (g := gb255) hg kA); have n10_ := Aside0.mk (neB (g := gb255) hg kA); have n11_ := Aside0.mk (neA (g := gb256) hg kA); have n12_ := Aside0.mk (neB (g := gb256) hg kA); clear BK254 BK255 BK256 HB; have BK254 := n0_; have BK255 := n1_; have BK256 := n2_; have HB := n3_; have BK257 := n4_; have GW257 := n5_; have GE257 := n6_; have NB254_257 := n7_; have NB257_254 := n8_; have NB255_257 := n9_; have NB257_255 := n10_; have NB256_257 := n11_; have NB257_256 := n12_; clear n0_ n1_ n2_ n3_ n4_ n5_ n6_ n7_ n8_ n9_ n10_ n11_ n12_ hb hbox hg; have hnb15 := NB257_254.out; have hnc15 := NB254_257.out; have hnb16 := NB257_255.out; have hnc16 := NB255_257.out; have hnb17 := NB257_256.out; have hnc17 := NB256_257.out; have hcz18_0 : w14.cell? ⟨gb257, 0, none⟩ = some (.int .u64 0) := (blk_cell BK257.out 0).trans rfl; have hcz18_1 : w14.cell? ⟨gb257, 1, none⟩ = some (.int .u64 0) := (blk_cell BK257.out 1).trans rfl; have hfz18_0 := blk_frozen BK257.out 0; have hfz18_1 := blk_frozen BK257.out 1; have hcz19_0 : w14.cell? ⟨gb254, 0, none⟩ = some (.int .u64 a0_0) := (blk_cell BK254.out 0).trans rfl; have hcz19_1 : w14.cell? ⟨gb254, 1, none⟩ = some (.int .u64 a0_1) := (blk_cell BK254.out 1).trans rfl; have hfz19_0 := blk_frozen BK254.out 0; have hfz19_1 := blk_frozen BK254.out 1; have hcz20_0 : w14.cell? ⟨gb256, 0, none⟩ = some (.int .u64 0) := (blk_cell BK256.out 0).trans rfl; have hcz20_1 : w14.cell? ⟨gb256, 1, none⟩ = some (.int .u64 0) := (blk_cell BK256.out 1).trans rfl; have hfz20_0 := blk_frozen BK256.out 0; have hfz20_1 := blk_frozen BK256.out 1))
    refine bodyPost_ret (results_ct rfl _ _ gb256 28 #[.int .u64 (IntKind.u64.wrap ((IntKind.u64.wrap (a0_0 + a1_0)) + 1)), .int .u64 (IntKind.u64.wrap (a0_1 + a1_1))] (0, 0) _ rfl (by (with_reducible repeat (first | refine blk_drewN ?_ _ | refine blk_drew ?_ | refine blk_alloc ?_ _)); refine blk_put (cs := #[.int .u64 (IntKind.u64.wrap ((IntKind.u64.wrap (a0_0 + a1_0)) + 1)), .int .u64 0]) ?_ 1 _ rfl; (with_reducible repeat (first | refine blk_drewN ?_ _ | refine blk_drew ?_ | refine blk_alloc ?_ _)); refine blk_put (cs := #[.int .u64 0, .int .u64 0]) ?_ 0 _ rfl; (with_reducible repeat (first | refine blk_drewN ?_ _ | refine blk_drew ?_ | refine blk_alloc ?_ _)); refine blk_far ?_ NB256_257.out _; (with_reducible repeat (first | refine blk_drewN ?_ _ | refine blk_drew ?_ | refine blk_alloc ?_ _)); refine blk_far ?_ NB256_257.out _; (with_reducible repeat (first | refine blk_drewN ?_ _ | refine blk_drew ?_ | refine blk_alloc ?_ _)); refine blk_far ?_ NB256_257.out _; exact kA) Try.underlying28 rfl (by kernel_rfl)) rfl ?_
    exact ⟨by first | rfl | (simp [errW_none, errW_some] <;> rfl) | (simp [*, errW_none, errW_some] <;> rfl), bA⟩
   ·rw [if_neg c5] at H
    have c5b0 : decide (0 < (IntKind.u64.wrap ((IntKind.u64.wrap (a0_0 + a1_0)) + 1))) = false := decide_eq_false c5
    clear c5; replace H := Option.bind_eq_some_iff.mp H; obtain ⟨⟨t258, t259⟩, A210, H⟩ := H; replace H : (some (t258, t259, false)) = some (r1, r2, r3) := H; have A21 := Aside0.mk A210; clear A210
    simp only [Option.some.injEq, Prod.mk.injEq] at H
    obtain ⟨rfl, rfl, rfl⟩ := H
    go_enter Try.func43, Try.ntmps43
    go_wp2_with (first | ((with_reducible refine gate_dst (N := 2) rfl ?_); refine bxA 2 #[.int .u64 a0_0, .int .u64 a0_1] 28 ?_; intro gb254 hg w22 hbox hb; have n0_ := Aside0.mk (below_step bA hb); have n1_ := Aside0.mk (hbox); have n2_ := Aside0.mk (gwA hg bA); have n3_ := Aside0.mk (gwA hg bA); clear HB; have HB := n0_; have BK254 := n1_; have GW254 := n2_; have GE254 := n3_; clear n0_ n1_ n2_ n3_ hb hbox hg) | ((with_reducible refine gate_dst (N := 3) rfl ?_); refine bxA 3 #[.int .u64 a1_0, .int .u64 a1_1] 28 ?_; intro gb255 hg w23 hbox hb; have n0_ := Aside0.mk (blk_below (g := gb254) kA hb); have n1_ := Aside0.mk (below_step bA hb); have n2_ := Aside0.mk (hbox); have n3_ := Aside0.mk (gwA hg bA); have n4_ := Aside0.mk (gwA hg bA); have n5_ := Aside0.mk (neA (g := gb254) hg kA); have n6_ := Aside0.mk (neB (g := gb254) hg kA); clear BK254 HB; have BK254 := n0_; have HB := n1_; have BK255 := n2_; have GW255 := n3_; have GE255 := n4_; have NB254_255 := n5_; have NB255_254 := n6_; clear n0_ n1_ n2_ n3_ n4_ n5_ n6_ hb hbox hg) | ((with_reducible refine gate_dst (N := 4) rfl ?_); refine bxA 4 #[.int .u64 0, .int .u64 0] 28 ?_; intro gb256 hg w24 hbox hb; have n0_ := Aside0.mk (blk_below (g := gb254) kA hb); have n1_ := Aside0.mk (blk_below (g := gb255) kA hb); have n2_ := Aside0.mk (below_step bA hb); have n3_ := Aside0.mk (hbox); have n4_ := Aside0.mk (gwA hg bA); have n5_ := Aside0.mk (gwA hg bA); have n6_ := Aside0.mk (neA (g := gb254) hg kA); have n7_ := Aside0.mk (neB (g := gb254) hg kA); have n8_ := Aside0.mk (neA (g := gb255) hg kA); have n9_ := Aside0.mk (neB (g := gb255) hg kA); clear BK254 BK255 HB; have BK254 := n0_; have BK255 := n1_; have HB := n2_; have BK256 := n3_; have GW256 := n4_; have GE256 := n5_; have NB254_256 := n6_; have NB256_254 := n7_; have NB255_256 := n8_; have NB256_255 := n9_; clear n0_ n1_ n2_ n3_ n4_ n5_ n6_ n7_ n8_ n9_ hb hbox hg; have hnb25 := NB254_255.out; have hnc25 := NB255_254.out; have hnb26 := NB254_256.out; have hnc26 := NB256_254.out; have hcz27_0 : w24.cell? ⟨gb254, 0, none⟩ = some (.int .u64 a0_0) := (blk_cell BK254.out 0).trans rfl; have hcz27_1 : w24.cell? ⟨gb254, 1, none⟩ = some (.int .u64 a0_1) := (blk_cell BK254.out 1).trans rfl; have hfz27_0 := blk_frozen BK254.out 0; have hfz27_1 := blk_frozen BK254.out 1; have hnb28 := NB255_256.out; have hnc28 := NB256_255.out; have hcz29_0 : w24.cell? ⟨gb255, 0, none⟩ = some (.int .u64 a1_0) := (blk_cell BK255.out 0).trans rfl; have hcz29_1 : w24.cell? ⟨gb255, 1, none⟩ = some (.int .u64 a1_1) := (blk_cell BK255.out 1).trans rfl; have hfz29_0 := blk_frozen BK255.out 0; have hfz29_1 := blk_frozen BK255.out 1) | ((with_reducible refine gate_dst (N := 6) rfl ?_); refine bxA 6 #[.int .u64 0, .int .u64 0] 28 ?_; intro gb257 hg w30 hbox hb; have n0_ := Aside0.mk (blk_below (g := gb254) kA hb); have n1_ := Aside0.mk (blk_below (g := gb255) kA hb); have n2_ := Aside0.mk (blk_below (g := gb256) kA hb); have n3_ := Aside0.mk (below_step bA hb); have n4_ := Aside0.mk (hbox); have n5_ := Aside0.mk (gwA hg bA); have n6_ := Aside0.mk (gwA hg bA); have n7_ := Aside0.mk (neA (g := gb254) hg kA); have n8_ := Aside0.mk (neB (g := gb254) hg kA); have n9_ := Aside0.mk (neA (g := gb255) hg kA); have n10_ := Aside0.mk (neB (g := gb255) hg kA); have n11_ := Aside0.mk (neA (g := gb256) hg kA); have n12_ := Aside0.mk (neB (g := gb256) hg kA); clear BK254 BK255 BK256 HB; have BK254 := n0_; have BK255 := n1_; have BK256 := n2_; have HB := n3_; have BK257 := n4_; have GW257 := n5_; have GE257 := n6_; have NB254_257 := n7_; have NB257_254 := n8_; have NB255_257 := n9_; have NB257_255 := n10_; have NB256_257 := n11_; have NB257_256 := n12_; clear n0_ n1_ n2_ n3_ n4_ n5_ n6_ n7_ n8_ n9_ n10_ n11_ n12_ hb hbox hg; have hnb31 := NB257_254.out; have hnc31 := NB254_257.out; have hnb32 := NB257_255.out; have hnc32 := NB255_257.out; have hnb33 := NB257_256.out; have hnc33 := NB256_257.out; have hcz34_0 : w30.cell? ⟨gb257, 0, none⟩ = some (.int .u64 0) := (blk_cell BK257.out 0).trans rfl; have hcz34_1 : w30.cell? ⟨gb257, 1, none⟩ = some (.int .u64 0) := (blk_cell BK257.out 1).trans rfl; have hfz34_0 := blk_frozen BK257.out 0; have hfz34_1 := blk_frozen BK257.out 1; have hcz35_0 : w30.cell? ⟨gb254, 0, none⟩ = some (.int .u64 a0_0) := (blk_cell BK254.out 0).trans rfl; have hcz35_1 : w30.cell? ⟨gb254, 1, none⟩ = some (.int .u64 a0_1) := (blk_cell BK254.out 1).trans rfl; have hfz35_0 := blk_frozen BK254.out 0; have hfz35_1 := blk_frozen BK254.out 1) | ((with_reducible refine gate_callee (f := 86) rfl ?_); refine goesL_ (some 41) rfl rfl Try.func86 (by kernel_rfl) rfl #[] rfl aA ?_; (with_reducible refine (backfillref01_greatest.calls  t258 t259 _ A21.out).mono ?_); rintro e w36 ⟨rfl, hb⟩; refine ⟨_, rfl, ?_⟩; have n0_ := Aside0.mk (blk_below (g := gb254) (o := .cells #[.int .u64 a0_0, .int .u64 a0_1] 28 (0, 0)) (by (with_reducible repeat (first | refine blk_drewN ?_ _ | refine blk_drew ?_ | refine blk_alloc ?_ _)); refine blk_far ?_ NB254_257.out _; (with_reducible repeat (first | refine blk_drewN ?_ _ | refine blk_drew ?_ | refine blk_alloc ?_ _)); refine blk_far ?_ NB254_257.out _; (with_reducible repeat (first | refine blk_drewN ?_ _ | refine blk_drew ?_ | refine blk_alloc ?_ _)); refine blk_far ?_ NB254_257.out _; exact kA) hb); have n1_ := Aside0.mk (blk_below (g := gb255) (o := .cells #[.int .u64 a1_0, .int .u64 a1_1] 28 (0, 0)) (by (with_reducible repeat (first | refine blk_drewN ?_ _ | refine blk_drew ?_ | refine blk_alloc ?_ _)); refine blk_far ?_ NB255_257.out _; (with_reducible repeat (first | refine blk_drewN ?_ _ | refine blk_drew ?_ | refine blk_alloc ?_ _)); refine blk_far ?_ NB255_257.out _; (with_reducible repeat (first | refine blk_drewN ?_ _ | refine blk_drew ?_ | refine blk_alloc ?_ _)); refine blk_far ?_ NB255_257.out _; exact kA) hb); have n2_ := Aside0.mk (blk_below (g := gb256) (o := .cells #[.int .u64 0, .int .u64 0] 28 (0, 0)) (by (with_reducible repeat (first | refine blk_drewN ?_ _ | refine blk_drew ?_ | refine blk_alloc ?_ _)); refine blk_far ?_ NB256_257.out _; (with_reducible repeat (first | refine blk_drewN ?_ _ | refine blk_drew ?_ | refine blk_alloc ?_ _)); refine blk_far ?_ NB256_257.out _; (with_reducible repeat (first | refine blk_drewN ?_ _ | refine blk_drew ?_ | refine blk_alloc ?_ _)); refine blk_far ?_ NB256_257.out _; exact kA) hb); have n3_ := Aside0.mk (blk_below (g := gb257) (o := .cells #[.int .u64 (IntKind.u64.wrap ((IntKind.u64.wrap (a0_0 + a1_0)) + 1)), .int .u64 (IntKind.u64.wrap (a0_1 + a1_1))] 28 (0, 0)) (by (with_reducible repeat (first | refine blk_drewN ?_ _ | refine blk_drew ?_ | refine blk_alloc ?_ _)); refine blk_put (cs := #[.int .u64 (IntKind.u64.wrap (a0_0 + a1_0)), .int .u64 (IntKind.u64.wrap (a0_1 + a1_1))]) ?_ 0 _ rfl; (with_reducible repeat (first | refine blk_drewN ?_ _ | refine blk_drew ?_ | refine blk_alloc ?_ _)); refine blk_put (cs := #[.int .u64 (IntKind.u64.wrap (a0_0 + a1_0)), .int .u64 0]) ?_ 1 _ rfl; (with_reducible repeat (first | refine blk_drewN ?_ _ | refine blk_drew ?_ | refine blk_alloc ?_ _)); refine blk_put (cs := #[.int .u64 0, .int .u64 0]) ?_ 0 _ rfl; exact kA) hb); have n4_ := Aside0.mk (below_step bA hb); clear BK254 BK255 BK256 BK257 HB; have BK254 := n0_; have BK255 := n1_; have BK256 := n2_; have BK257 := n3_; have HB := n4_; clear n0_ n1_ n2_ n3_ n4_; (try clear hb); have hcz37_0 : w36.cell? ⟨gb256, 0, none⟩ = some (.int .u64 0) := (blk_cell BK256.out 0).trans rfl; have hcz37_1 : w36.cell? ⟨gb256, 1, none⟩ = some (.int .u64 0) := (blk_cell BK256.out 1).trans rfl; have hfz37_0 := blk_frozen BK256.out 0; have hfz37_1 := blk_frozen BK256.out 1))
    refine bodyPost_ret (results_ct rfl _ _ gb256 28 #[.int .u64 t258, .int .u64 t259] (0, 0) _ rfl (by (with_reducible repeat (first | refine blk_drewN ?_ _ | refine blk_drew ?_ | refine blk_alloc ?_ _)); refine blk_put (cs := #[.int .u64 t258, .int .u64 0]) ?_ 1 _ rfl; (with_reducible repeat (first | refine blk_drewN ?_ _ | refine blk_drew ?_ | refine blk_alloc ?_ _)); refine blk_put (cs := #[.int .u64 0, .int .u64 0]) ?_ 0 _ rfl; exact kA) Try.underlying28 rfl (by kernel_rfl)) rfl ?_
    exact ⟨by first | rfl | (simp [errW_none, errW_some] <;> rfl) | (simp [*, errW_none, errW_some] <;> rfl), bA⟩
  ·rw [if_neg c4] at H
   have c4b0 : decide (a0_0 ≤ (IntKind.u64.wrap (a0_0 + a1_0))) = false := decide_eq_false c4
   clear c4; replace H := Option.bind_eq_some_iff.mp H; obtain ⟨⟨t260, t261⟩, A380, H⟩ := H; replace H : (some (t260, t261, false)) = some (r1, r2, r3) := H; have A38 := Aside0.mk A380; clear A380
   simp only [Option.some.injEq, Prod.mk.injEq] at H
   obtain ⟨rfl, rfl, rfl⟩ := H
   go_enter Try.func43, Try.ntmps43
   go_wp2_with (first | ((with_reducible refine gate_dst (N := 2) rfl ?_); refine bxA 2 #[.int .u64 a0_0, .int .u64 a0_1] 28 ?_; intro gb254 hg w39 hbox hb; have n0_ := Aside0.mk (below_step bA hb); have n1_ := Aside0.mk (hbox); have n2_ := Aside0.mk (gwA hg bA); have n3_ := Aside0.mk (gwA hg bA); clear HB; have HB := n0_; have BK254 := n1_; have GW254 := n2_; have GE254 := n3_; clear n0_ n1_ n2_ n3_ hb hbox hg) | ((with_reducible refine gate_dst (N := 3) rfl ?_); refine bxA 3 #[.int .u64 a1_0, .int .u64 a1_1] 28 ?_; intro gb255 hg w40 hbox hb; have n0_ := Aside0.mk (blk_below (g := gb254) kA hb); have n1_ := Aside0.mk (below_step bA hb); have n2_ := Aside0.mk (hbox); have n3_ := Aside0.mk (gwA hg bA); have n4_ := Aside0.mk (gwA hg bA); have n5_ := Aside0.mk (neA (g := gb254) hg kA); have n6_ := Aside0.mk (neB (g := gb254) hg kA); clear BK254 HB; have BK254 := n0_; have HB := n1_; have BK255 := n2_; have GW255 := n3_; have GE255 := n4_; have NB254_255 := n5_; have NB255_254 := n6_; clear n0_ n1_ n2_ n3_ n4_ n5_ n6_ hb hbox hg) | ((with_reducible refine gate_dst (N := 4) rfl ?_); refine bxA 4 #[.int .u64 0, .int .u64 0] 28 ?_; intro gb256 hg w41 hbox hb; have n0_ := Aside0.mk (blk_below (g := gb254) kA hb); have n1_ := Aside0.mk (blk_below (g := gb255) kA hb); have n2_ := Aside0.mk (below_step bA hb); have n3_ := Aside0.mk (hbox); have n4_ := Aside0.mk (gwA hg bA); have n5_ := Aside0.mk (gwA hg bA); have n6_ := Aside0.mk (neA (g := gb254) hg kA); have n7_ := Aside0.mk (neB (g := gb254) hg kA); have n8_ := Aside0.mk (neA (g := gb255) hg kA); have n9_ := Aside0.mk (neB (g := gb255) hg kA); clear BK254 BK255 HB; have BK254 := n0_; have BK255 := n1_; have HB := n2_; have BK256 := n3_; have GW256 := n4_; have GE256 := n5_; have NB254_256 := n6_; have NB256_254 := n7_; have NB255_256 := n8_; have NB256_255 := n9_; clear n0_ n1_ n2_ n3_ n4_ n5_ n6_ n7_ n8_ n9_ hb hbox hg; have hnb42 := NB254_255.out; have hnc42 := NB255_254.out; have hnb43 := NB254_256.out; have hnc43 := NB256_254.out; have hcz44_0 : w41.cell? ⟨gb254, 0, none⟩ = some (.int .u64 a0_0) := (blk_cell BK254.out 0).trans rfl; have hcz44_1 : w41.cell? ⟨gb254, 1, none⟩ = some (.int .u64 a0_1) := (blk_cell BK254.out 1).trans rfl; have hfz44_0 := blk_frozen BK254.out 0; have hfz44_1 := blk_frozen BK254.out 1; have hnb45 := NB255_256.out; have hnc45 := NB256_255.out; have hcz46_0 : w41.cell? ⟨gb255, 0, none⟩ = some (.int .u64 a1_0) := (blk_cell BK255.out 0).trans rfl; have hcz46_1 : w41.cell? ⟨gb255, 1, none⟩ = some (.int .u64 a1_1) := (blk_cell BK255.out 1).trans rfl; have hfz46_0 := blk_frozen BK255.out 0; have hfz46_1 := blk_frozen BK255.out 1) | ((with_reducible refine gate_dst (N := 6) rfl ?_); refine bxA 6 #[.int .u64 0, .int .u64 0] 28 ?_; intro gb257 hg w47 hbox hb; have n0_ := Aside0.mk (blk_below (g := gb254) kA hb); have n1_ := Aside0.mk (blk_below (g := gb255) kA hb); have n2_ := Aside0.mk (blk_below (g := gb256) kA hb); have n3_ := Aside0.mk (below_step bA hb); have n4_ := Aside0.mk (hbox); have n5_ := Aside0.mk (gwA hg bA); have n6_ := Aside0.mk (gwA hg bA); have n7_ := Aside0.mk (neA (g := gb254) hg kA); have n8_ := Aside0.mk (neB (g := gb254) hg kA); have n9_ := Aside0.mk (neA (g := gb255) hg kA); have n10_ := Aside0.mk (neB (g := gb255) hg kA); have n11_ := Aside0.mk (neA (g := gb256) hg kA); have n12_ := Aside0.mk (neB (g := gb256) hg kA); clear BK254 BK255 BK256 HB; have BK254 := n0_; have BK255 := n1_; have BK256 := n2_; have HB := n3_; have BK257 := n4_; have GW257 := n5_; have GE257 := n6_; have NB254_257 := n7_; have NB257_254 := n8_; have NB255_257 := n9_; have NB257_255 := n10_; have NB256_257 := n11_; have NB257_256 := n12_; clear n0_ n1_ n2_ n3_ n4_ n5_ n6_ n7_ n8_ n9_ n10_ n11_ n12_ hb hbox hg; have hnb48 := NB257_254.out; have hnc48 := NB254_257.out; have hnb49 := NB257_255.out; have hnc49 := NB255_257.out; have hnb50 := NB257_256.out; have hnc50 := NB256_257.out; have hcz51_0 : w47.cell? ⟨gb257, 0, none⟩ = some (.int .u64 0) := (blk_cell BK257.out 0).trans rfl; have hcz51_1 : w47.cell? ⟨gb257, 1, none⟩ = some (.int .u64 0) := (blk_cell BK257.out 1).trans rfl; have hfz51_0 := blk_frozen BK257.out 0; have hfz51_1 := blk_frozen BK257.out 1; have hcz52_0 : w47.cell? ⟨gb254, 0, none⟩ = some (.int .u64 a0_0) := (blk_cell BK254.out 0).trans rfl; have hcz52_1 : w47.cell? ⟨gb254, 1, none⟩ = some (.int .u64 a0_1) := (blk_cell BK254.out 1).trans rfl; have hfz52_0 := blk_frozen BK254.out 0; have hfz52_1 := blk_frozen BK254.out 1) | ((with_reducible refine gate_callee (f := 86) rfl ?_); refine goesL_ (some 41) rfl rfl Try.func86 (by kernel_rfl) rfl #[] rfl aA ?_; (with_reducible refine (backfillref01_greatest.calls  t260 t261 _ A38.out).mono ?_); rintro e w53 ⟨rfl, hb⟩; refine ⟨_, rfl, ?_⟩; have n0_ := Aside0.mk (blk_below (g := gb254) (o := .cells #[.int .u64 a0_0, .int .u64 a0_1] 28 (0, 0)) (by (with_reducible repeat (first | refine blk_drewN ?_ _ | refine blk_drew ?_ | refine blk_alloc ?_ _)); refine blk_far ?_ NB254_257.out _; (with_reducible repeat (first | refine blk_drewN ?_ _ | refine blk_drew ?_ | refine blk_alloc ?_ _)); refine blk_far ?_ NB254_257.out _; (with_reducible repeat (first | refine blk_drewN ?_ _ | refine blk_drew ?_ | refine blk_alloc ?_ _)); refine blk_far ?_ NB254_257.out _; exact kA) hb); have n1_ := Aside0.mk (blk_below (g := gb255) (o := .cells #[.int .u64 a1_0, .int .u64 a1_1] 28 (0, 0)) (by (with_reducible repeat (first | refine blk_drewN ?_ _ | refine blk_drew ?_ | refine blk_alloc ?_ _)); refine blk_far ?_ NB255_257.out _; (with_reducible repeat (first | refine blk_drewN ?_ _ | refine blk_drew ?_ | refine blk_alloc ?_ _)); refine blk_far ?_ NB255_257.out _; (with_reducible repeat (first | refine blk_drewN ?_ _ | refine blk_drew ?_ | refine blk_alloc ?_ _)); refine blk_far ?_ NB255_257.out _; exact kA) hb); have n2_ := Aside0.mk (blk_below (g := gb256) (o := .cells #[.int .u64 0, .int .u64 0] 28 (0, 0)) (by (with_reducible repeat (first | refine blk_drewN ?_ _ | refine blk_drew ?_ | refine blk_alloc ?_ _)); refine blk_far ?_ NB256_257.out _; (with_reducible repeat (first | refine blk_drewN ?_ _ | refine blk_drew ?_ | refine blk_alloc ?_ _)); refine blk_far ?_ NB256_257.out _; (with_reducible repeat (first | refine blk_drewN ?_ _ | refine blk_drew ?_ | refine blk_alloc ?_ _)); refine blk_far ?_ NB256_257.out _; exact kA) hb); have n3_ := Aside0.mk (blk_below (g := gb257) (o := .cells #[.int .u64 (IntKind.u64.wrap ((IntKind.u64.wrap (a0_0 + a1_0)) + 1)), .int .u64 (IntKind.u64.wrap (a0_1 + a1_1))] 28 (0, 0)) (by (with_reducible repeat (first | refine blk_drewN ?_ _ | refine blk_drew ?_ | refine blk_alloc ?_ _)); refine blk_put (cs := #[.int .u64 (IntKind.u64.wrap (a0_0 + a1_0)), .int .u64 (IntKind.u64.wrap (a0_1 + a1_1))]) ?_ 0 _ rfl; (with_reducible repeat (first | refine blk_drewN ?_ _ | refine blk_drew ?_ | refine blk_alloc ?_ _)); refine blk_put (cs := #[.int .u64 (IntKind.u64.wrap (a0_0 + a1_0)), .int .u64 0]) ?_ 1 _ rfl; (with_reducible repeat (first | refine blk_drewN ?_ _ | refine blk_drew ?_ | refine blk_alloc ?_ _)); refine blk_put (cs := #[.int .u64 0, .int .u64 0]) ?_ 0 _ rfl; exact kA) hb); have n4_ := Aside0.mk (below_step bA hb); clear BK254 BK255 BK256 BK257 HB; have BK254 := n0_; have BK255 := n1_; have BK256 := n2_; have BK257 := n3_; have HB := n4_; clear n0_ n1_ n2_ n3_ n4_; (try clear hb); have hcz54_0 : w53.cell? ⟨gb256, 0, none⟩ = some (.int .u64 0) := (blk_cell BK256.out 0).trans rfl; have hcz54_1 : w53.cell? ⟨gb256, 1, none⟩ = some (.int .u64 0) := (blk_cell BK256.out 1).trans rfl; have hfz54_0 := blk_frozen BK256.out 0; have hfz54_1 := blk_frozen BK256.out 1))
   refine bodyPost_ret (results_ct rfl _ _ gb256 28 #[.int .u64 t260, .int .u64 t261] (0, 0) _ rfl (by (with_reducible repeat (first | refine blk_drewN ?_ _ | refine blk_drew ?_ | refine blk_alloc ?_ _)); refine blk_put (cs := #[.int .u64 t260, .int .u64 0]) ?_ 1 _ rfl; (with_reducible repeat (first | refine blk_drewN ?_ _ | refine blk_drew ?_ | refine blk_alloc ?_ _)); refine blk_put (cs := #[.int .u64 0, .int .u64 0]) ?_ 0 _ rfl; exact kA) Try.underlying28 rfl (by kernel_rfl)) rfl ?_
   exact ⟨by first | rfl | (simp [errW_none, errW_some] <;> rfl) | (simp [*, errW_none, errW_some] <;> rfl), bA⟩
 ·rw [if_neg c3] at H
  have c3b0 : decide ((IntKind.u64.wrap (a0_1 + a1_1)) < a0_1) = false := decide_eq_false c3
  clear c3
  by_cases c55 : ((IntKind.u64.wrap (a0_0 + a1_0)) ≥ a0_0)
  ·rw [if_pos c55] at H
   have c55b0 : decide (a0_0 ≤ (IntKind.u64.wrap (a0_0 + a1_0))) = true := decide_eq_true c55
   clear c55
   simp only [Option.some.injEq, Prod.mk.injEq] at H
   obtain ⟨rfl, rfl, rfl⟩ := H
   go_enter Try.func43, Try.ntmps43
   go_wp2_with (first | ((with_reducible refine gate_dst (N := 2) rfl ?_); refine bxA 2 #[.int .u64 a0_0, .int .u64 a0_1] 28 ?_; intro gb254 hg w56 hbox hb; have n0_ := Aside0.mk (below_step bA hb); have n1_ := Aside0.mk (hbox); have n2_ := Aside0.mk (gwA hg bA); have n3_ := Aside0.mk (gwA hg bA); clear HB; have HB := n0_; have BK254 := n1_; have GW254 := n2_; have GE254 := n3_; clear n0_ n1_ n2_ n3_ hb hbox hg) | ((with_reducible refine gate_dst (N := 3) rfl ?_); refine bxA 3 #[.int .u64 a1_0, .int .u64 a1_1] 28 ?_; intro gb255 hg w57 hbox hb; have n0_ := Aside0.mk (blk_below (g := gb254) kA hb); have n1_ := Aside0.mk (below_step bA hb); have n2_ := Aside0.mk (hbox); have n3_ := Aside0.mk (gwA hg bA); have n4_ := Aside0.mk (gwA hg bA); have n5_ := Aside0.mk (neA (g := gb254) hg kA); have n6_ := Aside0.mk (neB (g := gb254) hg kA); clear BK254 HB; have BK254 := n0_; have HB := n1_; have BK255 := n2_; have GW255 := n3_; have GE255 := n4_; have NB254_255 := n5_; have NB255_254 := n6_; clear n0_ n1_ n2_ n3_ n4_ n5_ n6_ hb hbox hg) | ((with_reducible refine gate_dst (N := 4) rfl ?_); refine bxA 4 #[.int .u64 0, .int .u64 0] 28 ?_; intro gb256 hg w58 hbox hb; have n0_ := Aside0.mk (blk_below (g := gb254) kA hb); have n1_ := Aside0.mk (blk_below (g := gb255) kA hb); have n2_ := Aside0.mk (below_step bA hb); have n3_ := Aside0.mk (hbox); have n4_ := Aside0.mk (gwA hg bA); have n5_ := Aside0.mk (gwA hg bA); have n6_ := Aside0.mk (neA (g := gb254) hg kA); have n7_ := Aside0.mk (neB (g := gb254) hg kA); have n8_ := Aside0.mk (neA (g := gb255) hg kA); have n9_ := Aside0.mk (neB (g := gb255) hg kA); clear BK254 BK255 HB; have BK254 := n0_; have BK255 := n1_; have HB := n2_; have BK256 := n3_; have GW256 := n4_; have GE256 := n5_; have NB254_256 := n6_; have NB256_254 := n7_; have NB255_256 := n8_; have NB256_255 := n9_; clear n0_ n1_ n2_ n3_ n4_ n5_ n6_ n7_ n8_ n9_ hb hbox hg; have hnb59 := NB254_255.out; have hnc59 := NB255_254.out; have hnb60 := NB254_256.out; have hnc60 := NB256_254.out; have hcz61_0 : w58.cell? ⟨gb254, 0, none⟩ = some (.int .u64 a0_0) := (blk_cell BK254.out 0).trans rfl; have hcz61_1 : w58.cell? ⟨gb254, 1, none⟩ = some (.int .u64 a0_1) := (blk_cell BK254.out 1).trans rfl; have hfz61_0 := blk_frozen BK254.out 0; have hfz61_1 := blk_frozen BK254.out 1; have hnb62 := NB255_256.out; have hnc62 := NB256_255.out; have hcz63_0 : w58.cell? ⟨gb255, 0, none⟩ = some (.int .u64 a1_0) := (blk_cell BK255.out 0).trans rfl; have hcz63_1 : w58.cell? ⟨gb255, 1, none⟩ = some (.int .u64 a1_1) := (blk_cell BK255.out 1).trans rfl; have hfz63_0 := blk_frozen BK255.out 0; have hfz63_1 := blk_frozen BK255.out 1) | ((with_reducible refine gate_dst (N := 6) rfl ?_); refine bxA 6 #[.int .u64 0, .int .u64 0] 28 ?_; intro gb257 hg w64 hbox hb; have n0_ := Aside0.mk (blk_below (g := gb254) kA hb); have n1_ := Aside0.mk (blk_below (g := gb255) kA hb); have n2_ := Aside0.mk (blk_below (g := gb256) kA hb); have n3_ := Aside0.mk (below_step bA hb); have n4_ := Aside0.mk (hbox); have n5_ := Aside0.mk (gwA hg bA); have n6_ := Aside0.mk (gwA hg bA); have n7_ := Aside0.mk (neA (g := gb254) hg kA); have n8_ := Aside0.mk (neB (g := gb254) hg kA); have n9_ := Aside0.mk (neA (g := gb255) hg kA); have n10_ := Aside0.mk (neB (g := gb255) hg kA); have n11_ := Aside0.mk (neA (g := gb256) hg kA); have n12_ := Aside0.mk (neB (g := gb256) hg kA); clear BK254 BK255 BK256 HB; have BK254 := n0_; have BK255 := n1_; have BK256 := n2_; have HB := n3_; have BK257 := n4_; have GW257 := n5_; have GE257 := n6_; have NB254_257 := n7_; have NB257_254 := n8_; have NB255_257 := n9_; have NB257_255 := n10_; have NB256_257 := n11_; have NB257_256 := n12_; clear n0_ n1_ n2_ n3_ n4_ n5_ n6_ n7_ n8_ n9_ n10_ n11_ n12_ hb hbox hg; have hnb65 := NB257_254.out; have hnc65 := NB254_257.out; have hnb66 := NB257_255.out; have hnc66 := NB255_257.out; have hnb67 := NB257_256.out; have hnc67 := NB256_257.out; have hcz68_0 : w64.cell? ⟨gb257, 0, none⟩ = some (.int .u64 0) := (blk_cell BK257.out 0).trans rfl; have hcz68_1 : w64.cell? ⟨gb257, 1, none⟩ = some (.int .u64 0) := (blk_cell BK257.out 1).trans rfl; have hfz68_0 := blk_frozen BK257.out 0; have hfz68_1 := blk_frozen BK257.out 1; have hcz69_0 : w64.cell? ⟨gb254, 0, none⟩ = some (.int .u64 a0_0) := (blk_cell BK254.out 0).trans rfl; have hcz69_1 : w64.cell? ⟨gb254, 1, none⟩ = some (.int .u64 a0_1) := (blk_cell BK254.out 1).trans rfl; have hfz69_0 := blk_frozen BK254.out 0; have hfz69_1 := blk_frozen BK254.out 1; have hcz70_0 : w64.cell? ⟨gb256, 0, none⟩ = some (.int .u64 0) := (blk_cell BK256.out 0).trans rfl; have hcz70_1 : w64.cell? ⟨gb256, 1, none⟩ = some (.int .u64 0) := (blk_cell BK256.out 1).trans rfl; have hfz70_0 := blk_frozen BK256.out 0; have hfz70_1 := blk_frozen BK256.out 1))
   refine bodyPost_ret (results_ct rfl _ _ gb256 28 #[.int .u64 (IntKind.u64.wrap (a0_0 + a1_0)), .int .u64 (IntKind.u64.wrap (a0_1 + a1_1))] (0, 0) _ rfl (by (with_reducible repeat (first | refine blk_drewN ?_ _ | refine blk_drew ?_ | refine blk_alloc ?_ _)); refine blk_put (cs := #[.int .u64 (IntKind.u64.wrap (a0_0 + a1_0)), .int .u64 0]) ?_ 1 _ rfl; (with_reducible repeat (first | refine blk_drewN ?_ _ | refine blk_drew ?_ | refine blk_alloc ?_ _)); refine blk_put (cs := #[.int .u64 0, .int .u64 0]) ?_ 0 _ rfl; (with_reducible repeat (first | refine blk_drewN ?_ _ | refine blk_drew ?_ | refine blk_alloc ?_ _)); refine blk_far ?_ NB256_257.out _; (with_reducible repeat (first | refine blk_drewN ?_ _ | refine blk_drew ?_ | refine blk_alloc ?_ _)); refine blk_far ?_ NB256_257.out _; exact kA) Try.underlying28 rfl (by kernel_rfl)) rfl ?_
   exact ⟨by first | rfl | (simp [errW_none, errW_some] <;> rfl) | (simp [*, errW_none, errW_some] <;> rfl), bA⟩
  ·rw [if_neg c55] at H
   have c55b0 : decide (a0_0 ≤ (IntKind.u64.wrap (a0_0 + a1_0))) = false := decide_eq_false c55
   clear c55; replace H := Option.bind_eq_some_iff.mp H; obtain ⟨⟨t262, t263⟩, A710, H⟩ := H; replace H : (some (t262, t263, false)) = some (r1, r2, r3) := H; have A71 := Aside0.mk A710; clear A710
   simp only [Option.some.injEq, Prod.mk.injEq] at H
   obtain ⟨rfl, rfl, rfl⟩ := H
   go_enter Try.func43, Try.ntmps43
   go_wp2_with (first | ((with_reducible refine gate_dst (N := 2) rfl ?_); refine bxA 2 #[.int .u64 a0_0, .int .u64 a0_1] 28 ?_; intro gb254 hg w72 hbox hb; have n0_ := Aside0.mk (below_step bA hb); have n1_ := Aside0.mk (hbox); have n2_ := Aside0.mk (gwA hg bA); have n3_ := Aside0.mk (gwA hg bA); clear HB; have HB := n0_; have BK254 := n1_; have GW254 := n2_; have GE254 := n3_; clear n0_ n1_ n2_ n3_ hb hbox hg) | ((with_reducible refine gate_dst (N := 3) rfl ?_); refine bxA 3 #[.int .u64 a1_0, .int .u64 a1_1] 28 ?_; intro gb255 hg w73 hbox hb; have n0_ := Aside0.mk (blk_below (g := gb254) kA hb); have n1_ := Aside0.mk (below_step bA hb); have n2_ := Aside0.mk (hbox); have n3_ := Aside0.mk (gwA hg bA); have n4_ := Aside0.mk (gwA hg bA); have n5_ := Aside0.mk (neA (g := gb254) hg kA); have n6_ := Aside0.mk (neB (g := gb254) hg kA); clear BK254 HB; have BK254 := n0_; have HB := n1_; have BK255 := n2_; have GW255 := n3_; have GE255 := n4_; have NB254_255 := n5_; have NB255_254 := n6_; clear n0_ n1_ n2_ n3_ n4_ n5_ n6_ hb hbox hg) | ((with_reducible refine gate_dst (N := 4) rfl ?_); refine bxA 4 #[.int .u64 0, .int .u64 0] 28 ?_; intro gb256 hg w74 hbox hb; have n0_ := Aside0.mk (blk_below (g := gb254) kA hb); have n1_ := Aside0.mk (blk_below (g := gb255) kA hb); have n2_ := Aside0.mk (below_step bA hb); have n3_ := Aside0.mk (hbox); have n4_ := Aside0.mk (gwA hg bA); have n5_ := Aside0.mk (gwA hg bA); have n6_ := Aside0.mk (neA (g := gb254) hg kA); have n7_ := Aside0.mk (neB (g := gb254) hg kA); have n8_ := Aside0.mk (neA (g := gb255) hg kA); have n9_ := Aside0.mk (neB (g := gb255) hg kA); clear BK254 BK255 HB; have BK254 := n0_; have BK255 := n1_; have HB := n2_; have BK256 := n3_; have GW256 := n4_; have GE256 := n5_; have NB254_256 := n6_; have NB256_254 := n7_; have NB255_256 := n8_; have NB256_255 := n9_; clear n0_ n1_ n2_ n3_ n4_ n5_ n6_ n7_ n8_ n9_ hb hbox hg; have hnb75 := NB254_255.out; have hnc75 := NB255_254.out; have hnb76 := NB254_256.out; have hnc76 := NB256_254.out; have hcz77_0 : w74.cell? ⟨gb254, 0, none⟩ = some (.int .u64 a0_0) := (blk_cell BK254.out 0).trans rfl; have hcz77_1 : w74.cell? ⟨gb254, 1, none⟩ = some (.int .u64 a0_1) := (blk_cell BK254.out 1).trans rfl; have hfz77_0 := blk_frozen BK254.out 0; have hfz77_1 := blk_frozen BK254.out 1; have hnb78 := NB255_256.out; have hnc78 := NB256_255.out; have hcz79_0 : w74.cell? ⟨gb255, 0, none⟩ = some (.int .u64 a1_0) := (blk_cell BK255.out 0).trans rfl; have hcz79_1 : w74.cell? ⟨gb255, 1, none⟩ = some (.int .u64 a1_1) := (blk_cell BK255.out 1).trans rfl; have hfz79_0 := blk_frozen BK255.out 0; have hfz79_1 := blk_frozen BK255.out 1) | ((with_reducible refine gate_dst (N := 6) rfl ?_); refine bxA 6 #[.int .u64 0, .int .u64 0] 28 ?_; intro gb257 hg w80 hbox hb; have n0_ := Aside0.mk (blk_below (g := gb254) kA hb); have n1_ := Aside0.mk (blk_below (g := gb255) kA hb); have n2_ := Aside0.mk (blk_below (g := gb256) kA hb); have n3_ := Aside0.mk (below_step bA hb); have n4_ := Aside0.mk (hbox); have n5_ := Aside0.mk (gwA hg bA); have n6_ := Aside0.mk (gwA hg bA); have n7_ := Aside0.mk (neA (g := gb254) hg kA); have n8_ := Aside0.mk (neB (g := gb254) hg kA); have n9_ := Aside0.mk (neA (g := gb255) hg kA); have n10_ := Aside0.mk (neB (g := gb255) hg kA); have n11_ := Aside0.mk (neA (g := gb256) hg kA); have n12_ := Aside0.mk (neB (g := gb256) hg kA); clear BK254 BK255 BK256 HB; have BK254 := n0_; have BK255 := n1_; have BK256 := n2_; have HB := n3_; have BK257 := n4_; have GW257 := n5_; have GE257 := n6_; have NB254_257 := n7_; have NB257_254 := n8_; have NB255_257 := n9_; have NB257_255 := n10_; have NB256_257 := n11_; have NB257_256 := n12_; clear n0_ n1_ n2_ n3_ n4_ n5_ n6_ n7_ n8_ n9_ n10_ n11_ n12_ hb hbox hg; have hnb81 := NB257_254.out; have hnc81 := NB254_257.out; have hnb82 := NB257_255.out; have hnc82 := NB255_257.out; have hnb83 := NB257_256.out; have hnc83 := NB256_257.out; have hcz84_0 : w80.cell? ⟨gb257, 0, none⟩ = some (.int .u64 0) := (blk_cell BK257.out 0).trans rfl; have hcz84_1 : w80.cell? ⟨gb257, 1, none⟩ = some (.int .u64 0) := (blk_cell BK257.out 1).trans rfl; have hfz84_0 := blk_frozen BK257.out 0; have hfz84_1 := blk_frozen BK257.out 1; have hcz85_0 : w80.cell? ⟨gb254, 0, none⟩ = some (.int .u64 a0_0) := (blk_cell BK254.out 0).trans rfl; have hcz85_1 : w80.cell? ⟨gb254, 1, none⟩ = some (.int .u64 a0_1) := (blk_cell BK254.out 1).trans rfl; have hfz85_0 := blk_frozen BK254.out 0; have hfz85_1 := blk_frozen BK254.out 1) | ((with_reducible refine gate_callee (f := 86) rfl ?_); refine goesL_ (some 41) rfl rfl Try.func86 (by kernel_rfl) rfl #[] rfl aA ?_; (with_reducible refine (backfillref01_greatest.calls  t262 t263 _ A71.out).mono ?_); rintro e w86 ⟨rfl, hb⟩; refine ⟨_, rfl, ?_⟩; have n0_ := Aside0.mk (blk_below (g := gb254) (o := .cells #[.int .u64 a0_0, .int .u64 a0_1] 28 (0, 0)) (by (with_reducible repeat (first | refine blk_drewN ?_ _ | refine blk_drew ?_ | refine blk_alloc ?_ _)); refine blk_far ?_ NB254_257.out _; (with_reducible repeat (first | refine blk_drewN ?_ _ | refine blk_drew ?_ | refine blk_alloc ?_ _)); refine blk_far ?_ NB254_257.out _; exact kA) hb); have n1_ := Aside0.mk (blk_below (g := gb255) (o := .cells #[.int .u64 a1_0, .int .u64 a1_1] 28 (0, 0)) (by (with_reducible repeat (first | refine blk_drewN ?_ _ | refine blk_drew ?_ | refine blk_alloc ?_ _)); refine blk_far ?_ NB255_257.out _; (with_reducible repeat (first | refine blk_drewN ?_ _ | refine blk_drew ?_ | refine blk_alloc ?_ _)); refine blk_far ?_ NB255_257.out _; exact kA) hb); have n2_ := Aside0.mk (blk_below (g := gb256) (o := .cells #[.int .u64 0, .int .u64 0] 28 (0, 0)) (by (with_reducible repeat (first | refine blk_drewN ?_ _ | refine blk_drew ?_ | refine blk_alloc ?_ _)); refine blk_far ?_ NB256_257.out _; (with_reducible repeat (first | refine blk_drewN ?_ _ | refine blk_drew ?_ | refine blk_alloc ?_ _)); refine blk_far ?_ NB256_257.out _; exact kA) hb); have n3_ := Aside0.mk (blk_below (g := gb257) (o := .cells #[.int .u64 (IntKind.u64.wrap (a0_0 + a1_0)), .int .u64 (IntKind.u64.wrap (a0_1 + a1_1))] 28 (0, 0)) (by (with_reducible repeat (first | refine blk_drewN ?_ _ | refine blk_drew ?_ | refine blk_alloc ?_ _)); refine blk_put (cs := #[.int .u64 (IntKind.u64.wrap (a0_0 + a1_0)), .int .u64 0]) ?_ 1 _ rfl; (with_reducible repeat (first | refine blk_drewN ?_ _ | refine blk_drew ?_ | refine blk_alloc ?_ _)); refine blk_put (cs := #[.int .u64 0, .int .u64 0]) ?_ 0 _ rfl; exact kA) hb); have n4_ := Aside0.mk (below_step bA hb); clear BK254 BK255 BK256 BK257 HB; have BK254 := n0_; have BK255 := n1_; have BK256 := n2_; have BK257 := n3_; have HB := n4_; clear n0_ n1_ n2_ n3_ n4_; (try clear hb); have hcz87_0 : w86.cell? ⟨gb256, 0, none⟩ = some (.int .u64 0) := (blk_cell BK256.out 0).trans rfl; have hcz87_1 : w86.cell? ⟨gb256, 1, none⟩ = some (.int .u64 0) := (blk_cell BK256.out 1).trans rfl; have hfz87_0 := blk_frozen BK256.out 0; have hfz87_1 := blk_frozen BK256.out 1))
   refine bodyPost_ret (results_ct rfl _ _ gb256 28 #[.int .u64 t262, .int .u64 t263] (0, 0) _ rfl (by (with_reducible repeat (first | refine blk_drewN ?_ _ | refine blk_drew ?_ | refine blk_alloc ?_ _)); refine blk_put (cs := #[.int .u64 t262, .int .u64 0]) ?_ 1 _ rfl; (with_reducible repeat (first | refine blk_drewN ?_ _ | refine blk_drew ?_ | refine blk_alloc ?_ _)); refine blk_put (cs := #[.int .u64 0, .int .u64 0]) ?_ 0 _ rfl; exact kA) Try.underlying28 rfl (by kernel_rfl)) rfl ?_
   exact ⟨by first | rfl | (simp [errW_none, errW_some] <;> rfl) | (simp [*, errW_none, errW_some] <;> rfl), bA⟩

/-! ### backfillref01_Mul: function 48 -/
def backfillref01_Mul.f (a0 : Int) (a1 : Int) : Option (Int × Int) := some (IntKind.u64.wrap ((IntKind.u64.wrap ((IntKind.u64.wrap ((IntKind.u64.wrap ((a0 / 4294967296) * (a1 / 4294967296))) + ((IntKind.u64.wrap ((a0 / 4294967296) * (Go.bits .and .u64 a1 4294967295))) / 4294967296))) + ((IntKind.u64.wrap ((Go.bits .and .u64 a0 4294967295) * (a1 / 4294967296))) / 4294967296))) + ((IntKind.u64.wrap ((IntKind.u64.wrap (((IntKind.u64.wrap ((Go.bits .and .u64 a0 4294967295) * (Go.bits .and .u64 a1 4294967295))) / 4294967296) + (Go.bits .and .u64 (IntKind.u64.wrap ((a0 / 4294967296) * (Go.bits .and .u64 a1 4294967295))) 4294967295))) + (Go.bits .and .u64 (IntKind.u64.wrap ((Go.bits .and .u64 a0 4294967295) * (a1 / 4294967296))) 4294967295))) / 4294967296)), IntKind.u64.wrap ((IntKind.u64.wrap ((IntKind.u64.wrap ((IntKind.u64.wrap (((IntKind.u64.wrap ((Go.bits .and .u64 a0 4294967295) * (Go.bits .and .u64 a1 4294967295))) / 4294967296) + (Go.bits .and .u64 (IntKind.u64.wrap ((a0 / 4294967296) * (Go.bits .and .u64 a1 4294967295))) 4294967295))) + (Go.bits .and .u64 (IntKind.u64.wrap ((Go.bits .and .u64 a0 4294967295) * (a1 / 4294967296))) 4294967295))) * 4294967296)) + (Go.bits .and .u64 (IntKind.u64.wrap ((Go.bits .and .u64 a0 4294967295) * (Go.bits .and .u64 a1 4294967295))) 4294967295)))
set_option maxHeartbeats 8000000 in
set_option maxRecDepth 100000 in
theorem backfillref01_Mul.calls (a0 : Int) (a1 : Int) (r1 : Int) (r2 : Int) (w : World) (h : backfillref01_Mul.f a0 a1 = some (r1, r2)) :
  Calls Try.prog 48 #[.int .u64 a0, .int .u64 a1] w fun e w' => e = .returned (.agg #[.int .u64 r1, .int .u64 r2]) ∧ Below w.heap.size w w' := by
 have hu28 := Try.underlying28
 have HB := Aside0.mk (Below.refl w.heap.size w)
 have H : (some (IntKind.u64.wrap ((IntKind.u64.wrap ((IntKind.u64.wrap ((IntKind.u64.wrap ((a0 / 4294967296) * (a1 / 4294967296))) + ((IntKind.u64.wrap ((a0 / 4294967296) * (Go.bits .and .u64 a1 4294967295))) / 4294967296))) + ((IntKind.u64.wrap ((Go.bits .and .u64 a0 4294967295) * (a1 / 4294967296))) / 4294967296))) + ((IntKind.u64.wrap ((IntKind.u64.wrap (((IntKind.u64.wrap ((Go.bits .and .u64 a0 4294967295) * (Go.bits .and .u64 a1 4294967295))) / 4294967296) + (Go.bits .and .u64 (IntKind.u64.wrap ((a0 / 4294967296) * (Go.bits .and .u64 a1 4294967295))) 4294967295))) + (Go.bits .and .u64 (IntKind.u64.wrap ((Go.bits .and .u64 a0 4294967295) * (a1 / 4294967296))) 4294967295))) / 4294967296)), IntKind.u64.wrap ((IntKind.u64.wrap ((IntKind.u64.wrap ((IntKind.u64.wrap (((IntKind.u64.wrap ((Go.bits .and .u64 a0 4294967295) * (Go.bits .and .u64 a1 4294967295))) / 4294967296) + (Go.bits .and .u64 (IntKind.u64.wrap ((a0 / 4294967296) * (Go.bits .and .u64 a1 4294967295))) 4294967295))) + (Go.bits .and .u64 (IntKind.u64.wrap ((Go.bits .and .u64 a0 4294967295) * (a1 / 4294967296))) 4294967295))) * 4294967296)) + (Go.bits .and .u64 (IntKind.u64.wrap ((Go.bits .and .u64 a0 4294967295) * (Go.bits .and .u64 a1 4294967295))) 4294967295)))) = some (r1, r2) := h
 clear h
 simp only [Option.some.injEq, Prod.mk.injEq] at H
 obtain ⟨rfl, rfl⟩ := H
 go_enter Try.func48, Try.ntmps48
 go_wp2_with (first | ((with_reducible refine gate_dst (N := 4) rfl ?_); refine bxA 4 #[.int .u64 0, .int .u64 0] 28 ?_; intro gb264 hg w3 hbox hb; have n0_ := Aside0.mk (below_step bA hb); have n1_ := Aside0.mk (hbox); have n2_ := Aside0.mk (gwA hg bA); have n3_ := Aside0.mk (gwA hg bA); clear HB; have HB := n0_; have BK264 := n1_; have GW264 := n2_; have GE264 := n3_; clear n0_ n1_ n2_ n3_ hb hbox hg; have hcz4_0 : w3.cell? ⟨gb264, 0, none⟩ = some (.int .u64 0) := (blk_cell BK264.out 0).trans rfl; have hcz4_1 : w3.cell? ⟨gb264, 1, none⟩ = some (.int .u64 0) := (blk_cell BK264.out 1).trans rfl; have hfz4_0 := blk_frozen BK264.out 0; have hfz4_1 := blk_frozen BK264.out 1))
 refine bodyPost_ret (results_cell_row rfl _ _ gb264 28 #[.int .u64 (IntKind.u64.wrap ((IntKind.u64.wrap ((IntKind.u64.wrap ((IntKind.u64.wrap ((a0 / 4294967296) * (a1 / 4294967296))) + ((IntKind.u64.wrap ((a0 / 4294967296) * (Go.bits .and .u64 a1 4294967295))) / 4294967296))) + ((IntKind.u64.wrap ((Go.bits .and .u64 a0 4294967295) * (a1 / 4294967296))) / 4294967296))) + ((IntKind.u64.wrap ((IntKind.u64.wrap (((IntKind.u64.wrap ((Go.bits .and .u64 a0 4294967295) * (Go.bits .and .u64 a1 4294967295))) / 4294967296) + (Go.bits .and .u64 (IntKind.u64.wrap ((a0 / 4294967296) * (Go.bits .and .u64 a1 4294967295))) 4294967295))) + (Go.bits .and .u64 (IntKind.u64.wrap ((Go.bits .and .u64 a0 4294967295) * (a1 / 4294967296))) 4294967295))) / 4294967296))), .int .u64 (IntKind.u64.wrap ((IntKind.u64.wrap ((IntKind.u64.wrap ((IntKind.u64.wrap (((IntKind.u64.wrap ((Go.bits .and .u64 a0 4294967295) * (Go.bits .and .u64 a1 4294967295))) / 4294967296) + (Go.bits .and .u64 (IntKind.u64.wrap ((a0 / 4294967296) * (Go.bits .and .u64 a1 4294967295))) 4294967295))) + (Go.bits .and .u64 (IntKind.u64.wrap ((Go.bits .and .u64 a0 4294967295) * (a1 / 4294967296))) 4294967295))) * 4294967296)) + (Go.bits .and .u64 (IntKind.u64.wrap ((Go.bits .and .u64 a0 4294967295) * (Go.bits .and .u64 a1 4294967295))) 4294967295)))] (0, 0) _ rfl (by (with_reducible repeat (first | refine blk_drewN ?_ _ | refine blk_drew ?_ | refine blk_alloc ?_ _)); refine blk_put (cs := #[.int .u64 (IntKind.u64.wrap ((IntKind.u64.wrap ((IntKind.u64.wrap ((IntKind.u64.wrap ((a0 / 4294967296) * (a1 / 4294967296))) + ((IntKind.u64.wrap ((a0 / 4294967296) * (Go.bits .and .u64 a1 4294967295))) / 4294967296))) + ((IntKind.u64.wrap ((Go.bits .and .u64 a0 4294967295) * (a1 / 4294967296))) / 4294967296))) + ((IntKind.u64.wrap ((IntKind.u64.wrap (((IntKind.u64.wrap ((Go.bits .and .u64 a0 4294967295) * (Go.bits .and .u64 a1 4294967295))) / 4294967296) + (Go.bits .and .u64 (IntKind.u64.wrap ((a0 / 4294967296) * (Go.bits .and .u64 a1 4294967295))) 4294967295))) + (Go.bits .and .u64 (IntKind.u64.wrap ((Go.bits .and .u64 a0 4294967295) * (a1 / 4294967296))) 4294967295))) / 4294967296))), .int .u64 0]) ?_ 1 _ rfl; (with_reducible repeat (first | refine blk_drewN ?_ _ | refine blk_drew ?_ | refine blk_alloc ?_ _)); refine blk_put (cs := #[.int .u64 0, .int .u64 0]) ?_ 0 _ rfl; exact kA) Try.underlying28 rfl (by kernel_rfl)) rfl ?_
 exact ⟨by first | rfl | (simp [errW_none, errW_some] <;> rfl) | (simp [*, errW_none, errW_some] <;> rfl), bA⟩

/-! ### backfillref01_Times: function 38 -/
def backfillref01_Times.f (a0_0 : Int) (a0_1 : Int) (a1 : Int) : Option (Int × Int × Bool) := (backfillref01_Mul.f a0_1 a1).bind fun bt267 => ((backfillref01_Mul.f a0_0 a1).bind fun bt270 => (if bt270.1 > 0 then ((backfillref01_greatest.f).bind fun bt273 => (some (bt273.1, bt273.2, false))) else ((backfillref01_Add.f bt267.1 bt267.2 bt270.2 0).bind fun bt275 => (some (bt275.1, bt275.2.1, bt275.2.2)))))
set_option maxHeartbeats 8000000 in
set_option maxRecDepth 100000 in
theorem backfillref01_Times.calls (a0_0 : Int) (a0_1 : Int) (a1 : Int) (r1 : Int) (r2 : Int) (r3 : Bool) (w : World) (h : backfillref01_Times.f a0_0 a0_1 a1 = some (r1, r2, r3)) :
  Calls Try.prog 38 #[.agg #[.int .u64 a0_0, .int .u64 a0_1], .int .u64 a1] w fun e w' => e = .returned (.tuple #[.agg #[.int .u64 r1, .int .u64 r2], .bool r3]) ∧ Below w.heap.size w w' := by
 have hu28 := Try.underlying28
 have HB := Aside0.mk (Below.refl w.heap.size w)
 have H : ((backfillref01_Mul.f a0_1 a1).bind fun bt267 => ((backfillref01_Mul.f a0_0 a1).bind fun bt270 => (if bt270.1 > 0 then ((backfillref01_greatest.f).bind fun bt273 => (some (bt273.1, bt273.2, false))) else ((backfillref01_Add.f bt267.1 bt267.2 bt270.2 0).bind fun bt275 => (some (bt275.1, bt275.2.1, bt275.2.2)))))) = some (r1, r2, r3) := h
 clear h; replace H := Option.bind_eq_some_iff.mp H; obtain ⟨⟨t267, t268⟩, A30, H⟩ := H; replace H : ((backfillref01_Mul.f a0_0 a1).bind fun bt270 => (if bt270.1 > 0 then ((backfillref01_greatest.f).bind fun bt273 => (some (bt273.1, bt273.2, false))) else ((backfillref01_Add.f t267 t268 bt270.2 0).bind fun bt275 => (some (bt275.1, bt275.2.1, bt275.2.2))))) = some (r1, r2, r3) := H; have A3 := Aside0.mk A30; clear A30; replace H := Option.bind_eq_some_iff.mp H; obtain ⟨⟨t270, t271⟩, A40, H⟩ := H; replace H : (if t270 > 0 then ((backfillref01_greatest.f).bind fun bt273 => (some (bt273.1, bt273.2, false))) else ((backfillref01_Add.f t267 t268 t271 0).bind fun bt275 => (some (bt275.1, bt275.2.1, bt275.2.2)))) = some (r1, r2, r3) := H; have A4 := Aside0.mk A40; clear A40
 by_cases c5 : t270 > 0
 ·rw [if_pos c5] at H
  have c5b0 : decide (0 < t270) = true := decide_eq_true c5
  clear c5; replace H := Option.bind_eq_some_iff.mp H; obtain ⟨⟨t273, t274⟩, A60, H⟩ := H; replace H : (some (t273, t274, false)) = some (r1, r2, r3) := H; have A6 := Aside0.mk A60; clear A60
  simp only [Option.some.injEq, Prod.mk.injEq] at H
  obtain ⟨rfl, rfl, rfl⟩ := H
  go_enter Try.func38, Try.ntmps38
  go_wp2_with (first | ((with_reducible refine gate_dst (N := 2) rfl ?_); refine bxA 2 #[.int .u64 a0_0, .int .u64 a0_1] 28 ?_; intro gb265 hg w7 hbox hb; have n0_ := Aside0.mk (below_step bA hb); have n1_ := Aside0.mk (hbox); have n2_ := Aside0.mk (gwA hg bA); have n3_ := Aside0.mk (gwA hg bA); clear HB; have HB := n0_; have BK265 := n1_; have GW265 := n2_; have GE265 := n3_; clear n0_ n1_ n2_ n3_ hb hbox hg) | ((with_reducible refine gate_dst (N := 4) rfl ?_); refine bxA 4 #[.int .u64 0, .int .u64 0] 28 ?_; intro gb266 hg w8 hbox hb; have n0_ := Aside0.mk (blk_below (g := gb265) kA hb); have n1_ := Aside0.mk (below_step bA hb); have n2_ := Aside0.mk (hbox); have n3_ := Aside0.mk (gwA hg bA); have n4_ := Aside0.mk (gwA hg bA); have n5_ := Aside0.mk (neA (g := gb265) hg kA); have n6_ := Aside0.mk (neB (g := gb265) hg kA); clear BK265 HB; have BK265 := n0_; have HB := n1_; have BK266 := n2_; have GW266 := n3_; have GE266 := n4_; have NB265_266 := n5_; have NB266_265 := n6_; clear n0_ n1_ n2_ n3_ n4_ n5_ n6_ hb hbox hg; have hnb9 := NB265_266.out; have hnc9 := NB266_265.out; have hcz10_0 : w8.cell? ⟨gb265, 0, none⟩ = some (.int .u64 a0_0) := (blk_cell BK265.out 0).trans rfl; have hcz10_1 : w8.cell? ⟨gb265, 1, none⟩ = some (.int .u64 a0_1) := (blk_cell BK265.out 1).trans rfl; have hfz10_0 := blk_frozen BK265.out 0; have hfz10_1 := blk_frozen BK265.out 1) | ((with_reducible refine gate_callee (f := 48) rfl ?_); refine goesL_ (some 11) rfl rfl Try.func48 (by kernel_rfl) rfl #[.int .u64 a0_1, .int .u64 a1] rfl aA ?_; (with_reducible refine (backfillref01_Mul.calls a0_1 a1 t267 t268 _ A3.out).mono ?_); rintro e w11 ⟨rfl, hb⟩; refine ⟨_, rfl, ?_⟩; have n0_ := Aside0.mk (blk_below (g := gb265) kA hb); have n1_ := Aside0.mk (blk_below (g := gb266) kA hb); have n2_ := Aside0.mk (below_step bA hb); clear BK265 BK266 HB; have BK265 := n0_; have BK266 := n1_; have HB := n2_; clear n0_ n1_ n2_; (try clear hb)) | ((with_reducible refine gate_dst (N := 6) rfl ?_); refine bxA 6 #[.int .u64 0, .int .u64 0] 28 ?_; intro gb269 hg w12 hbox hb; have n0_ := Aside0.mk (blk_below (g := gb265) kA hb); have n1_ := Aside0.mk (blk_below (g := gb266) kA hb); have n2_ := Aside0.mk (below_step bA hb); have n3_ := Aside0.mk (hbox); have n4_ := Aside0.mk (gwA hg bA); have n5_ := Aside0.mk (gwA hg bA); have n6_ := Aside0.mk (neA (g := gb265) hg kA); have n7_ := Aside0.mk (neB (g := gb265) hg kA); have n8_ := Aside0.mk (neA (g := gb266) hg kA); have n9_ := Aside0.mk (neB (g := gb266) hg kA); clear BK265 BK266 HB; have BK265 := n0_; have BK266 := n1_; have HB := n2_; have BK269 := n3_; have GW269 := n4_; have GE269 := n5_; have NB265_269 := n6_; have NB269_265 := n7_; have NB266_269 := n8_; have NB269_266 := n9_; clear n0_ n1_ n2_ n3_ n4_ n5_ n6_ n7_ n8_ n9_ hb hbox hg; have hnb13 := NB269_265.out; have hnc13 := NB265_269.out; have hnb14 := NB269_266.out; have hnc14 := NB266_269.out; have hcz15_0 : w12.cell? ⟨gb269, 0, none⟩ = some (.int .u64 0) := (blk_cell BK269.out 0).trans rfl; have hcz15_1 : w12.cell? ⟨gb269, 1, none⟩ = some (.int .u64 0) := (blk_cell BK269.out 1).trans rfl; have hfz15_0 := blk_frozen BK269.out 0; have hfz15_1 := blk_frozen BK269.out 1; have hcz16_0 : w12.cell? ⟨gb265, 0, none⟩ = some (.int .u64 a0_0) := (blk_cell BK265.out 0).trans rfl; have hcz16_1 : w12.cell? ⟨gb265, 1, none⟩ = some (.int .u64 a0_1) := (blk_cell BK265.out 1).trans rfl; have hfz16_0 := blk_frozen BK265.out 0; have hfz16_1 := blk_frozen BK265.out 1) | ((with_reducible refine gate_callee (f := 48) rfl ?_); refine goesL_ (some 15) rfl rfl Try.func48 (by kernel_rfl) rfl #[.int .u64 a0_0, .int .u64 a1] rfl aA ?_; (with_reducible refine (backfillref01_Mul.calls a0_0 a1 t270 t271 _ A4.out).mono ?_); rintro e w17 ⟨rfl, hb⟩; refine ⟨_, rfl, ?_⟩; have n0_ := Aside0.mk (blk_below (g := gb265) (o := .cells #[.int .u64 a0_0, .int .u64 a0_1] 28 (0, 0)) (by (with_reducible repeat (first | refine blk_drewN ?_ _ | refine blk_drew ?_ | refine blk_alloc ?_ _)); refine blk_far ?_ NB265_269.out _; (with_reducible repeat (first | refine blk_drewN ?_ _ | refine blk_drew ?_ | refine blk_alloc ?_ _)); refine blk_far ?_ NB265_269.out _; exact kA) hb); have n1_ := Aside0.mk (blk_below (g := gb266) (o := .cells #[.int .u64 0, .int .u64 0] 28 (0, 0)) (by (with_reducible repeat (first | refine blk_drewN ?_ _ | refine blk_drew ?_ | refine blk_alloc ?_ _)); refine blk_far ?_ NB266_269.out _; (with_reducible repeat (first | refine blk_drewN ?_ _ | refine blk_drew ?_ | refine blk_alloc ?_ _)); refine blk_far ?_ NB266_269.out _; exact kA) hb); have n2_ := Aside0.mk (blk_below (g := gb269) (o := .cells #[.int .u64 t267, .int .u64 t268] 28 (0, 0)) (by (with_reducible repeat (first | refine blk_drewN ?_ _ | refine blk_drew ?_ | refine blk_alloc ?_ _)); refine blk_put (cs := #[.int .u64 t267, .int .u64 0]) ?_ 1 _ rfl; (with_reducible repeat (first | refine blk_drewN ?_ _ | refine blk_drew ?_ | refine blk_alloc ?_ _)); refine blk_put (cs := #[.int .u64 0, .int .u64 0]) ?_ 0 _ rfl; exact kA) hb); have n3_ := Aside0.mk (below_step bA hb); clear BK265 BK266 BK269 HB; have BK265 := n0_; have BK266 := n1_; have BK269 := n2_; have HB := n3_; clear n0_ n1_ n2_ n3_; (try clear hb)) | ((with_reducible refine gate_dst (N := 7) rfl ?_); refine bxA 7 #[.int .u64 0, .int .u64 0] 28 ?_; intro gb272 hg w18 hbox hb; have n0_ := Aside0.mk (blk_below (g := gb265) kA hb); have n1_ := Aside0.mk (blk_below (g := gb266) kA hb); have n2_ := Aside0.mk (blk_below (g := gb269) kA hb); have n3_ := Aside0.mk (below_step bA hb); have n4_ := Aside0.mk (hbox); have n5_ := Aside0.mk (gwA hg bA); have n6_ := Aside0.mk (gwA hg bA); have n7_ := Aside0.mk (neA (g := gb265) hg kA); have n8_ := Aside0.mk (neB (g := gb265) hg kA); have n9_ := Aside0.mk (neA (g := gb266) hg kA); have n10_ := Aside0.mk (neB (g := gb266) hg kA); have n11_ := Aside0.mk (neA (g := gb269) hg kA); have n12_ := Aside0.mk (neB (g := gb269) hg kA); clear BK265 BK266 BK269 HB; have BK265 := n0_; have BK266 := n1_; have BK269 := n2_; have HB := n3_; have BK272 := n4_; have GW272 := n5_; have GE272 := n6_; have NB265_272 := n7_; have NB272_265 := n8_; have NB266_272 := n9_; have NB272_266 := n10_; have NB269_272 := n11_; have NB272_269 := n12_; clear n0_ n1_ n2_ n3_ n4_ n5_ n6_ n7_ n8_ n9_ n10_ n11_ n12_ hb hbox hg; have hnb19 := NB272_265.out; have hnc19 := NB265_272.out; have hnb20 := NB272_266.out; have hnc20 := NB266_272.out; have hnb21 := NB272_269.out; have hnc21 := NB269_272.out; have hcz22_0 : w18.cell? ⟨gb272, 0, none⟩ = some (.int .u64 0) := (blk_cell BK272.out 0).trans rfl; have hcz22_1 : w18.cell? ⟨gb272, 1, none⟩ = some (.int .u64 0) := (blk_cell BK272.out 1).trans rfl; have hfz22_0 := blk_frozen BK272.out 0; have hfz22_1 := blk_frozen BK272.out 1) | ((with_reducible refine gate_callee (f := 86) rfl ?_); refine goesL_ (some 19) rfl rfl Try.func86 (by kernel_rfl) rfl #[] rfl aA ?_; (with_reducible refine (backfillref01_greatest.calls  t273 t274 _ A6.out).mono ?_); rintro e w23 ⟨rfl, hb⟩; refine ⟨_, rfl, ?_⟩; have n0_ := Aside0.mk (blk_below (g := gb265) (o := .cells #[.int .u64 a0_0, .int .u64 a0_1] 28 (0, 0)) (by (with_reducible repeat (first | refine blk_drewN ?_ _ | refine blk_drew ?_ | refine blk_alloc ?_ _)); refine blk_far ?_ NB265_272.out _; (with_reducible repeat (first | refine blk_drewN ?_ _ | refine blk_drew ?_ | refine blk_alloc ?_ _)); refine blk_far ?_ NB265_272.out _; exact kA) hb); have n1_ := Aside0.mk (blk_below (g := gb266) (o := .cells #[.int .u64 0, .int .u64 0] 28 (0, 0)) (by (with_reducible repeat (first | refine blk_drewN ?_ _ | refine blk_drew ?_ | refine blk_alloc ?_ _)); refine blk_far ?_ NB266_272.out _; (with_reducible repeat (first | refine blk_drewN ?_ _ | refine blk_drew ?_ | refine blk_alloc ?_ _)); refine blk_far ?_ NB266_272.out _; exact kA) hb); have n2_ := Aside0.mk (blk_below (g := gb269) (o := .cells #[.int .u64 t267, .int .u64 t268] 28 (0, 0)) (by (with_reducible repeat (first | refine blk_drewN ?_ _ | refine blk_drew ?_ | refine blk_alloc ?_ _)); refine blk_far ?_ NB269_272.out _; (with_reducible repeat (first | refine blk_drewN ?_ _ | refine blk_drew ?_ | refine blk_alloc ?_ _)); refine blk_far ?_ NB269_272.out _; exact kA) hb); have n3_ := Aside0.mk (blk_below (g := gb272) (o := .cells #[.int .u64 t270, .int .u64 t271] 28 (0, 0)) (by (with_reducible repeat (first | refine blk_drewN ?_ _ | refine blk_drew ?_ | refine blk_alloc ?_ _)); refine blk_put (cs := #[.int .u64 t270, .int .u64 0]) ?_ 1 _ rfl; (with_reducible repeat (first | refine blk_drewN ?_ _ | refine blk_drew ?_ | refine blk_alloc ?_ _)); refine blk_put (cs := #[.int .u64 0, .int .u64 0]) ?_ 0 _ rfl; exact kA) hb); have n4_ := Aside0.mk (below_step bA hb); clear BK265 BK266 BK269 BK272 HB; have BK265 := n0_; have BK266 := n1_; have BK269 := n2_; have BK272 := n3_; have HB := n4_; clear n0_ n1_ n2_ n3_ n4_; (try clear hb); have hcz24_0 : w23.cell? ⟨gb266, 0, none⟩ = some (.int .u64 0) := (blk_cell BK266.out 0).trans rfl; have hcz24_1 : w23.cell? ⟨gb266, 1, none⟩ = some (.int .u64 0) := (blk_cell BK266.out 1).trans rfl; have hfz24_0 := blk_frozen BK266.out 0; have hfz24_1 := blk_frozen BK266.out 1))
  refine bodyPost_ret (results_ct rfl _ _ gb266 28 #[.int .u64 t273, .int .u64 t274] (0, 0) _ rfl (by (with_reducible repeat (first | refine blk_drewN ?_ _ | refine blk_drew ?_ | refine blk_alloc ?_ _)); refine blk_put (cs := #[.int .u64 t273, .int .u64 0]) ?_ 1 _ rfl; (with_reducible repeat (first | refine blk_drewN ?_ _ | refine blk_drew ?_ | refine blk_alloc ?_ _)); refine blk_put (cs := #[.int .u64 0, .int .u64 0]) ?_ 0 _ rfl; exact kA) Try.underlying28 rfl (by kernel_rfl)) rfl ?_
  exact ⟨by first | rfl | (simp [errW_none, errW_some] <;> rfl) | (simp [*, errW_none, errW_some] <;> rfl), bA⟩
 ·rw [if_neg c5] at H
  have c5b0 : decide (0 < t270) = false := decide_eq_false c5
  clear c5; replace H := Option.bind_eq_some_iff.mp H; obtain ⟨⟨t275, t276, t277⟩, A250, H⟩ := H; replace H : (some (t275, t276, t277)) = some (r1, r2, r3) := H; have A25 := Aside0.mk A250; clear A250
  simp only [Option.some.injEq, Prod.mk.injEq] at H
  obtain ⟨rfl, rfl, rfl⟩ := H
  go_enter Try.func38, Try.ntmps38
  go_wp2_with (first | ((with_reducible refine gate_dst (N := 2) rfl ?_); refine bxA 2 #[.int .u64 a0_0, .int .u64 a0_1] 28 ?_; intro gb265 hg w26 hbox hb; have n0_ := Aside0.mk (below_step bA hb); have n1_ := Aside0.mk (hbox); have n2_ := Aside0.mk (gwA hg bA); have n3_ := Aside0.mk (gwA hg bA); clear HB; have HB := n0_; have BK265 := n1_; have GW265 := n2_; have GE265 := n3_; clear n0_ n1_ n2_ n3_ hb hbox hg) | ((with_reducible refine gate_dst (N := 4) rfl ?_); refine bxA 4 #[.int .u64 0, .int .u64 0] 28 ?_; intro gb266 hg w27 hbox hb; have n0_ := Aside0.mk (blk_below (g := gb265) kA hb); have n1_ := Aside0.mk (below_step bA hb); have n2_ := Aside0.mk (hbox); have n3_ := Aside0.mk (gwA hg bA); have n4_ := Aside0.mk (gwA hg bA); have n5_ := Aside0.mk (neA (g := gb265) hg kA); have n6_ := Aside0.mk (neB (g := gb265) hg kA); clear BK265 HB; have BK265 := n0_; have HB := n1_; have BK266 := n2_; have GW266 := n3_; have GE266 := n4_; have NB265_266 := n5_; have NB266_265 := n6_; clear n0_ n1_ n2_ n3_ n4_ n5_ n6_ hb hbox hg; have hnb28 := NB265_266.out; have hnc28 := NB266_265.out; have hcz29_0 : w27.cell? ⟨gb265, 0, none⟩ = some (.int .u64 a0_0) := (blk_cell BK265.out 0).trans rfl; have hcz29_1 : w27.cell? ⟨gb265, 1, none⟩ = some (.int .u64 a0_1) := (blk_cell BK265.out 1).trans rfl; have hfz29_0 := blk_frozen BK265.out 0; have hfz29_1 := blk_frozen BK265.out 1) | ((with_reducible refine gate_callee (f := 48) rfl ?_); refine goesL_ (some 11) rfl rfl Try.func48 (by kernel_rfl) rfl #[.int .u64 a0_1, .int .u64 a1] rfl aA ?_; (with_reducible refine (backfillref01_Mul.calls a0_1 a1 t267 t268 _ A3.out).mono ?_); rintro e w30 ⟨rfl, hb⟩; refine ⟨_, rfl, ?_⟩; have n0_ := Aside0.mk (blk_below (g := gb265) kA hb); have n1_ := Aside0.mk (blk_below (g := gb266) kA hb); have n2_ := Aside0.mk (below_step bA hb); clear BK265 BK266 HB; have BK265 := n0_; have BK266 := n1_; have HB := n2_; clear n0_ n1_ n2_; (try clear hb)) | ((with_reducible refine gate_dst (N := 6) rfl ?_); refine bxA 6 #[.int .u64 0, .int .u64 0] 28 ?_; intro gb269 hg w31 hbox hb; have n0_ := Aside0.mk (blk_below (g := gb265) kA hb); have n1_ := Aside0.mk (blk_below (g := gb266) kA hb); have n2_ := Aside0.mk (below_step bA hb); have n3_ := Aside0.mk (hbox); have n4_ := Aside0.mk (gwA hg bA); have n5_ := Aside0.mk (gwA hg bA); have n6_ := Aside0.mk (neA (g := gb265) hg kA); have n7_ := Aside0.mk (neB (g := gb265) hg kA); have n8_ := Aside0.mk (neA (g := gb266) hg kA); have n9_ := Aside0.mk (neB (g := gb266) hg kA); clear BK265 BK266 HB; have BK265 := n0_; have BK266 := n1_; have HB := n2_; have BK269 := n3_; have GW269 := n4_; have GE269 := n5_; have NB265_269 := n6_; have NB269_265 := n7_; have NB266_269 := n8_; have NB269_266 := n9_; clear n0_ n1_ n2_ n3_ n4_ n5_ n6_ n7_ n8_ n9_ hb hbox hg; have hnb32 := NB269_265.out; have hnc32 := NB265_269.out; have hnb33 := NB269_266.out; have hnc33 := NB266_269.out; have hcz34_0 : w31.cell? ⟨gb269, 0, none⟩ = some (.int .u64 0) := (blk_cell BK269.out 0).trans rfl; have hcz34_1 : w31.cell? ⟨gb269, 1, none⟩ = some (.int .u64 0) := (blk_cell BK269.out 1).trans rfl; have hfz34_0 := blk_frozen BK269.out 0; have hfz34_1 := blk_frozen BK269.out 1; have hcz35_0 : w31.cell? ⟨gb265, 0, none⟩ = some (.int .u64 a0_0) := (blk_cell BK265.out 0).trans rfl; have hcz35_1 : w31.cell? ⟨gb265, 1, none⟩ = some (.int .u64 a0_1) := (blk_cell BK265.out 1).trans rfl; have hfz35_0 := blk_frozen BK265.out 0; have hfz35_1 := blk_frozen BK265.out 1) | ((with_reducible refine gate_callee (f := 48) rfl ?_); refine goesL_ (some 15) rfl rfl Try.func48 (by kernel_rfl) rfl #[.int .u64 a0_0, .int .u64 a1] rfl aA ?_; (with_reducible refine (backfillref01_Mul.calls a0_0 a1 t270 t271 _ A4.out).mono ?_); rintro e w36 ⟨rfl, hb⟩; refine ⟨_, rfl, ?_⟩; have n0_ := Aside0.mk (blk_below (g := gb265) (o := .cells #[.int .u64 a0_0, .int .u64 a0_1] 28 (0, 0)) (by (with_reducible repeat (first | refine blk_drewN ?_ _ | refine blk_drew ?_ | refine blk_alloc ?_ _)); refine blk_far ?_ NB265_269.out _; (with_reducible repeat (first | refine blk_drewN ?_ _ | refine blk_drew ?_ | refine blk_alloc ?_ _)); refine blk_far ?_ NB265_269.out _; exact kA) hb); have n1_ := Aside0.mk (blk_below (g := gb266) (o := .cells #[.int .u64 0, .int .u64 0] 28 (0, 0)) (by (with_reducible repeat (first | refine blk_drewN ?_ _ | refine blk_drew ?_ | refine blk_alloc ?_ _)); refine blk_far ?_ NB266_269.out _; (with_reducible repeat (first | refine blk_drewN ?_ _ | refine blk_drew ?_ | refine blk_alloc ?_ _)); refine blk_far ?_ NB266_269.out _; exact kA) hb); have n2_ := Aside0.mk (blk_below (g := gb269) (o := .cells #[.int .u64 t267, .int .u64 t268] 28 (0, 0)) (by (with_reducible repeat (first | refine blk_drewN ?_ _ | refine blk_drew ?_ | refine blk_alloc ?_ _)); refine blk_put (cs := #[.int .u64 t267, .int .u64 0]) ?_ 1 _ rfl; (with_reducible repeat (first | refine blk_drewN ?_ _ | refine blk_drew ?_ | refine blk_alloc ?_ _)); refine blk_put (cs := #[.int .u64 0, .int .u64 0]) ?_ 0 _ rfl; exact kA) hb); have n3_ := Aside0.mk (below_step bA hb); clear BK265 BK266 BK269 HB; have BK265 := n0_; have BK266 := n1_; have BK269 := n2_; have HB := n3_; clear n0_ n1_ n2_ n3_; (try clear hb)) | ((with_reducible refine gate_dst (N := 7) rfl ?_); refine bxA 7 #[.int .u64 0, .int .u64 0] 28 ?_; intro gb272 hg w37 hbox hb; have n0_ := Aside0.mk (blk_below (g := gb265) kA hb); have n1_ := Aside0.mk (blk_below (g := gb266) kA hb); have n2_ := Aside0.mk (blk_below (g := gb269) kA hb); have n3_ := Aside0.mk (below_step bA hb); have n4_ := Aside0.mk (hbox); have n5_ := Aside0.mk (gwA hg bA); have n6_ := Aside0.mk (gwA hg bA); have n7_ := Aside0.mk (neA (g := gb265) hg kA); have n8_ := Aside0.mk (neB (g := gb265) hg kA); have n9_ := Aside0.mk (neA (g := gb266) hg kA); have n10_ := Aside0.mk (neB (g := gb266) hg kA); have n11_ := Aside0.mk (neA (g := gb269) hg kA); have n12_ := Aside0.mk (neB (g := gb269) hg kA); clear BK265 BK266 BK269 HB; have BK265 := n0_; have BK266 := n1_; have BK269 := n2_; have HB := n3_; have BK272 := n4_; have GW272 := n5_; have GE272 := n6_; have NB265_272 := n7_; have NB272_265 := n8_; have NB266_272 := n9_; have NB272_266 := n10_; have NB269_272 := n11_; have NB272_269 := n12_; clear n0_ n1_ n2_ n3_ n4_ n5_ n6_ n7_ n8_ n9_ n10_ n11_ n12_ hb hbox hg; have hnb38 := NB272_265.out; have hnc38 := NB265_272.out; have hnb39 := NB272_266.out; have hnc39 := NB266_272.out; have hnb40 := NB272_269.out; have hnc40 := NB269_272.out; have hcz41_0 : w37.cell? ⟨gb272, 0, none⟩ = some (.int .u64 0) := (blk_cell BK272.out 0).trans rfl; have hcz41_1 : w37.cell? ⟨gb272, 1, none⟩ = some (.int .u64 0) := (blk_cell BK272.out 1).trans rfl; have hfz41_0 := blk_frozen BK272.out 0; have hfz41_1 := blk_frozen BK272.out 1; have hcz42_0 : w37.cell? ⟨gb269, 0, none⟩ = some (.int .u64 t267) := (blk_cell BK269.out 0).trans rfl; have hcz42_1 : w37.cell? ⟨gb269, 1, none⟩ = some (.int .u64 t268) := (blk_cell BK269.out 1).trans rfl; have hfz42_0 := blk_frozen BK269.out 0; have hfz42_1 := blk_frozen BK269.out 1) | ((with_reducible refine gate_callee (f := 43) rfl ?_); refine goesL_ (some 24) rfl rfl Try.func43 (by kernel_rfl) rfl #[.agg #[.int .u64 t267, .int .u64 t268], .agg #[.int .u64 t271, .int .u64 0]] rfl aA ?_; (with_reducible refine (backfillref01_Add.calls t267 t268 t271 0 t275 t276 t277 _ A25.out).mono ?_); rintro e w43 ⟨rfl, hb⟩; refine ⟨_, rfl, ?_⟩; have n0_ := Aside0.mk (blk_below (g := gb265) (o := .cells #[.int .u64 a0_0, .int .u64 a0_1] 28 (0, 0)) (by (with_reducible repeat (first | refine blk_drewN ?_ _ | refine blk_drew ?_ | refine blk_alloc ?_ _)); refine blk_far ?_ NB265_272.out _; (with_reducible repeat (first | refine blk_drewN ?_ _ | refine blk_drew ?_ | refine blk_alloc ?_ _)); refine blk_far ?_ NB265_272.out _; exact kA) hb); have n1_ := Aside0.mk (blk_below (g := gb266) (o := .cells #[.int .u64 0, .int .u64 0] 28 (0, 0)) (by (with_reducible repeat (first | refine blk_drewN ?_ _ | refine blk_drew ?_ | refine blk_alloc ?_ _)); refine blk_far ?_ NB266_272.out _; (with_reducible repeat (first | refine blk_drewN ?_ _ | refine blk_drew ?_ | refine blk_alloc ?_ _)); refine blk_far ?_ NB266_272.out _; exact kA) hb); have n2_ := Aside0.mk (blk_below (g := gb269) (o := .cells #[.int .u64 t267, .int .u64 t268] 28 (0, 0)) (by (with_reducible repeat (first | refine blk_drewN ?_ _ | refine blk_drew ?_ | refine blk_alloc ?_ _)); refine blk_far ?_ NB269_272.out _; (with_reducible repeat (first | refine blk_drewN ?_ _ | refine blk_drew ?_ | refine blk_alloc ?_ _)); refine blk_far ?_ NB269_272.out _; exact kA) hb); have n3_ := Aside0.mk (blk_below (g := gb272) (o := .cells #[.int .u64 t270, .int .u64 t271] 28 (0, 0)) (by (with_reducible repeat (first | refine blk_drewN ?_ _ | refine blk_drew ?_ | refine blk_alloc ?_ _)); refine blk_put (cs := #[.int .u64 t270, .int .u64 0]) ?_ 1 _ rfl; (with_reducible repeat (first | refine blk_drewN ?_ _ | refine blk_drew ?_ | refine blk_alloc ?_ _)); refine blk_put (cs := #[.int .u64 0, .int .u64 0]) ?_ 0 _ rfl; exact kA) hb); have n4_ := Aside0.mk (below_step bA hb); clear BK265 BK266 BK269 BK272 HB; have BK265 := n0_; have BK266 := n1_; have BK269 := n2_; have BK272 := n3_; have HB := n4_; clear n0_ n1_ n2_ n3_ n4_; (try clear hb); have hcz44_0 : w43.cell? ⟨gb266, 0, none⟩ = some (.int .u64 0) := (blk_cell BK266.out 0).trans rfl; have hcz44_1 : w43.cell? ⟨gb266, 1, none⟩ = some (.int .u64 0) := (blk_cell BK266.out 1).trans rfl; have hfz44_0 := blk_frozen BK266.out 0; have hfz44_1 := blk_frozen BK266.out 1))
  refine bodyPost_ret (results_ct rfl _ _ gb266 28 #[.int .u64 t275, .int .u64 t276] (0, 0) _ rfl (by (with_reducible repeat (first | refine blk_drewN ?_ _ | refine blk_drew ?_ | refine blk_alloc ?_ _)); refine blk_put (cs := #[.int .u64 t275, .int .u64 0]) ?_ 1 _ rfl; (with_reducible repeat (first | refine blk_drewN ?_ _ | refine blk_drew ?_ | refine blk_alloc ?_ _)); refine blk_put (cs := #[.int .u64 0, .int .u64 0]) ?_ 0 _ rfl; exact kA) Try.underlying28 rfl (by kernel_rfl)) rfl ?_
  exact ⟨by first | rfl | (simp [errW_none, errW_some] <;> rfl) | (simp [*, errW_none, errW_some] <;> rfl), bA⟩

/-! ### backfillref01_Cmp: function 39 -/
def backfillref01_Cmp.j0 : Nat → Bool → Int → Int → Int → Int → Option (Int)
 | 0, _, _, _, _, _ => none
 | k + 1, x23, x279000, x279001, x280000, x280001 => if x23 = true then (some (-1)) else (if (x279000 == x280000 && (x279001 == x280001)) = true then (some 0) else (some 1))
def backfillref01_Cmp.f (k : Nat) (a0_0 : Int) (a0_1 : Int) (a1_0 : Int) (a1_1 : Int) : Option (Int) := if a0_0 < a1_0 then (backfillref01_Cmp.j0 k true a0_0 a0_1 a1_0 a1_1) else (if a0_0 = a1_0 then (backfillref01_Cmp.j0 k (decide (a0_1 < a1_1)) a0_0 a0_1 a1_0 a1_1) else (backfillref01_Cmp.j0 k false a0_0 a0_1 a1_0 a1_1))
theorem backfillref01_Cmp.mono_l : ∀ k, (∀ y0 y1 y2 y3 y4, LeO (backfillref01_Cmp.j0 k y0 y1 y2 y3 y4) (backfillref01_Cmp.j0 (k + 1) y0 y1 y2 y3 y4))
 | 0 => fun _ _ _ _ _ r h => by simp [backfillref01_Cmp.j0] at h
 | k + 1 => by
  have ih0 := backfillref01_Cmp.mono_l k
  ·intro y0 y1 y2 y3 y4
   unfold backfillref01_Cmp.j0
   repeat' first
   | (with_reducible exact ih0 _ _ _ _ _)
   | (with_reducible exact LeO.refl _)
   | (with_reducible exact LeO.none _)
   | (with_reducible refine LeO.ite ?_ ?_)
   | (with_reducible refine LeO.bind ?_ (fun _ => ?_))
   | exact ih0 _ _ _ _ _
   | exact LeO.none _
   | refine LeO.ite ?_ ?_
   | refine LeO.bind ?_ (fun _ => ?_)
theorem backfillref01_Cmp.mono : ∀ a0 a1 a2 a3 k, LeO (backfillref01_Cmp.f k a0 a1 a2 a3) (backfillref01_Cmp.f (k + 1) a0 a1 a2 a3) := by
 intro a0 a1 a2 a3 k
 have ih0 := backfillref01_Cmp.mono_l k
 unfold backfillref01_Cmp.f
 repeat' first
   | (with_reducible exact ih0 _ _ _ _ _)
   | (with_reducible exact LeO.refl _)
   | (with_reducible exact LeO.none _)
   | (with_reducible refine LeO.ite ?_ ?_)
   | (with_reducible refine LeO.bind ?_ (fun _ => ?_))
   | exact ih0 _ _ _ _ _
   | exact LeO.none _
   | refine LeO.ite ?_ ?_
   | refine LeO.bind ?_ (fun _ => ?_)
set_option maxHeartbeats 8000000 in
set_option maxRecDepth 100000 in
theorem backfillref01_Cmp.calls (k : Nat) (a0_0 : Int) (a0_1 : Int) (a1_0 : Int) (a1_1 : Int) (r : Int) (w : World) (h : backfillref01_Cmp.f k a0_0 a0_1 a1_0 a1_1 = some r) :
  Calls Try.prog 39 #[.agg #[.int .u64 a0_0, .int .u64 a0_1], .agg #[.int .u64 a1_0, .int .u64 a1_1]] w fun e w' => e = .returned (.int .i64 r) ∧ Below w.heap.size w w' := by
 have hu28 := Try.underlying28
 have HB := Aside0.mk (Below.refl w.heap.size w)
 have H : (if a0_0 < a1_0 then (backfillref01_Cmp.j0 k true a0_0 a0_1 a1_0 a1_1) else (if a0_0 = a1_0 then (backfillref01_Cmp.j0 k (decide (a0_1 < a1_1)) a0_0 a0_1 a1_0 a1_1) else (backfillref01_Cmp.j0 k false a0_0 a0_1 a1_0 a1_1))) = some r := h
 clear h
 have HC3 := Aside0.mk H
 clear H
 go_enter Try.func39, Try.ntmps39
 go_upto_region 1 with (first | ((with_reducible refine gate_dst (N := 2) rfl ?_); refine bxA 2 #[.int .u64 a0_0, .int .u64 a0_1] 28 ?_; intro gb278 hg w4 hbox hb; have n0_ := Aside0.mk (below_step bA hb); have n1_ := Aside0.mk (hbox); have n2_ := Aside0.mk (gwA hg bA); have n3_ := Aside0.mk (gwA hg bA); clear HB; have HB := n0_; have BK278 := n1_; have GW278 := n2_; have GE278 := n3_; clear n0_ n1_ n2_ n3_ hb hbox hg) | ((with_reducible refine gate_dst (N := 3) rfl ?_); refine bxA 3 #[.int .u64 a1_0, .int .u64 a1_1] 28 ?_; intro gb279 hg w5 hbox hb; have n0_ := Aside0.mk (blk_below (g := gb278) kA hb); have n1_ := Aside0.mk (below_step bA hb); have n2_ := Aside0.mk (hbox); have n3_ := Aside0.mk (gwA hg bA); have n4_ := Aside0.mk (gwA hg bA); have n5_ := Aside0.mk (neA (g := gb278) hg kA); have n6_ := Aside0.mk (neB (g := gb278) hg kA); clear BK278 HB; have BK278 := n0_; have HB := n1_; have BK279 := n2_; have GW279 := n3_; have GE279 := n4_; have NB278_279 := n5_; have NB279_278 := n6_; clear n0_ n1_ n2_ n3_ n4_ n5_ n6_ hb hbox hg))
 (try simp only [Act.put, List.setIfInBounds_toArray, List.set_cons_zero, List.set_cons_succ])
 go_cut [23] (fun v23 wc => ∃ (kq : Nat) (x23_2 : Bool), v23 = .bool x23_2 ∧ Aside0 (backfillref01_Cmp.j0 kq x23_2 a0_0 a0_1 a1_0 a1_1 = some r) ∧ Aside0 (kq ≤ k) ∧ Aside0 (wc.heap[gb278]? = some (.cells #[.int .u64 a0_0, .int .u64 a0_1] 28 (0, 0))) ∧ Aside0 (wc.heap[gb279]? = some (.cells #[.int .u64 a1_0, .int .u64 a1_1] 28 (0, 0))) ∧ Aside0 (Below w.heap.size w wc))
 case first =>
  have H := HC3.out
  clear HC3
  by_cases c6 : a0_0 < a1_0
  ·rw [if_pos c6] at H
   have c6b0 : decide (a0_0 < a1_0) = true := decide_eq_true c6
   clear c6
   (first | rw [c6b0] | (simp only [i64_w, i32_w]; rw [c6b0]) | skip)
   have H' := Aside0.mk H
   clear H
   have hnb7 := NB278_279.out
   have hnc7 := NB279_278.out
   have hcz8_0 : w5.cell? ⟨gb278, 0, none⟩ = some (.int .u64 a0_0) := (blk_cell BK278.out 0).trans rfl
   have hcz8_1 : w5.cell? ⟨gb278, 1, none⟩ = some (.int .u64 a0_1) := (blk_cell BK278.out 1).trans rfl
   have hfz8_0 := blk_frozen BK278.out 0
   have hfz8_1 := blk_frozen BK278.out 1
   have hcz9_0 : w5.cell? ⟨gb279, 0, none⟩ = some (.int .u64 a1_0) := (blk_cell BK279.out 0).trans rfl
   have hcz9_1 : w5.cell? ⟨gb279, 1, none⟩ = some (.int .u64 a1_1) := (blk_cell BK279.out 1).trans rfl
   have hfz9_0 := blk_frozen BK279.out 0
   have hfz9_1 := blk_frozen BK279.out 1
   go_wp2
   go_meet
   case rel => exact ⟨_, (true), (by first | rfl | (simp; done) | (simp [*]; done)), H', ⟨by first | omega | exact Nat.le_refl _⟩, ⟨by exact kA⟩, ⟨by exact kA⟩, ⟨bA⟩⟩
  ·rw [if_neg c6] at H
   have c6b0 : decide (a0_0 < a1_0) = false := decide_eq_false c6
   clear c6
   (first | rw [c6b0] | (simp only [i64_w, i32_w]; rw [c6b0]) | skip)
   by_cases c10 : a0_0 = a1_0
   ·rw [if_pos c10] at H
    have c10b0 : (a0_0 == a1_0) = true := beq_iff_eq.mpr c10
    have c10b1 : (a0_0 != a1_0) = false := bne_eq_false_iff_eq.mpr c10
    clear c10
    have H' := Aside0.mk H
    clear H
    have hnb11 := NB278_279.out
    have hnc11 := NB279_278.out
    have hcz12_0 : w5.cell? ⟨gb278, 0, none⟩ = some (.int .u64 a0_0) := (blk_cell BK278.out 0).trans rfl
    have hcz12_1 : w5.cell? ⟨gb278, 1, none⟩ = some (.int .u64 a0_1) := (blk_cell BK278.out 1).trans rfl
    have hfz12_0 := blk_frozen BK278.out 0
    have hfz12_1 := blk_frozen BK278.out 1
    have hcz13_0 : w5.cell? ⟨gb279, 0, none⟩ = some (.int .u64 a1_0) := (blk_cell BK279.out 0).trans rfl
    have hcz13_1 : w5.cell? ⟨gb279, 1, none⟩ = some (.int .u64 a1_1) := (blk_cell BK279.out 1).trans rfl
    have hfz13_0 := blk_frozen BK279.out 0
    have hfz13_1 := blk_frozen BK279.out 1
    go_wp2
    go_meet
    case rel => exact ⟨_, (decide (a0_1 < a1_1)), (by first | rfl | (simp; done) | (simp [*]; done)), H', ⟨by first | omega | exact Nat.le_refl _⟩, ⟨by exact kA⟩, ⟨by exact kA⟩, ⟨bA⟩⟩
   ·rw [if_neg c10] at H
    have c10b0 : (a0_0 == a1_0) = false := beq_eq_false_iff_ne.mpr c10
    have c10b1 : (a0_0 != a1_0) = true := bne_iff_ne.mpr c10
    have H' := Aside0.mk H
    clear H
    have hnb14 := NB278_279.out
    have hnc14 := NB279_278.out
    have hcz15_0 : w5.cell? ⟨gb278, 0, none⟩ = some (.int .u64 a0_0) := (blk_cell BK278.out 0).trans rfl
    have hcz15_1 : w5.cell? ⟨gb278, 1, none⟩ = some (.int .u64 a0_1) := (blk_cell BK278.out 1).trans rfl
    have hfz15_0 := blk_frozen BK278.out 0
    have hfz15_1 := blk_frozen BK278.out 1
    have hcz16_0 : w5.cell? ⟨gb279, 0, none⟩ = some (.int .u64 a1_0) := (blk_cell BK279.out 0).trans rfl
    have hcz16_1 : w5.cell? ⟨gb279, 1, none⟩ = some (.int .u64 a1_1) := (blk_cell BK279.out 1).trans rfl
    have hfz16_0 := blk_frozen BK279.out 0
    have hfz16_1 := blk_frozen BK279.out 1
    go_wp2
    go_meet
    case rel => exact ⟨_, (false), (by first | rfl | (simp; done) | (simp [*]; done)), H', ⟨by first | omega | exact Nat.le_refl _⟩, ⟨by exact kA⟩, ⟨by exact kA⟩, ⟨bA⟩⟩
 case rest =>
  clear HC3
  try clear c1
  try clear p2
  try clear c3
  try clear c6
  try clear c6b0
  try clear c7
  try clear c10
  try clear c10b0
  try clear c10b1
  try clear c11
  try clear c14
  try clear hcz12_0
  try clear hcz12_1
  try clear hcz13_0
  try clear hcz13_1
  try clear hcz15_0
  try clear hcz15_1
  try clear hcz16_0
  try clear hcz16_1
  try clear hcz8_0
  try clear hcz8_1
  try clear hcz9_0
  try clear hcz9_1
  try clear hfz12_0
  try clear hfz12_1
  try clear hfz13_0
  try clear hfz13_1
  try clear hfz15_0
  try clear hfz15_1
  try clear hfz16_0
  try clear hfz16_1
  try clear hfz8_0
  try clear hfz8_1
  try clear hfz9_0
  try clear hfz9_1
  obtain ⟨kq, x23_2, rfl, HA, HJ2, BK278, BK279, HB⟩ := hcut
  cases kq with
  | zero => exact absurd HA.out (by simp [backfillref01_Cmp.j0])
  | succ kj2 =>
   have H := HA.out
   clear HA
   simp only [backfillref01_Cmp.j0] at H
   by_cases c17 : x23_2 = true
   ·subst c17
    have H1 : (some (-1)) = some r := by rw [if_pos rfl] at H; exact H
    clear H
    have H := H1
    clear H1
    obtain rfl := Option.some.inj H
    go_wp2
    go_ret
    exact ⟨by first | rfl | (simp [errW_none, errW_some] <;> rfl) | (simp [*, errW_none, errW_some] <;> rfl), bA⟩
   ·replace c17 := Bool.eq_false_iff.mpr c17
    subst c17
    have H1 : (if (a0_0 == a1_0 && (a0_1 == a1_1)) = true then (some 0) else (some 1)) = some r := by rw [if_neg (show ¬ (false = true) by decide)] at H; exact H
    clear H
    have H := H1
    clear H1
    by_cases c18 : (a0_0 == a1_0 && (a0_1 == a1_1)) = true
    ·rw [if_pos c18] at H
     have c18b0 : (a0_0 == a1_0 && (a0_1 == a1_1)) = true := c18
     (try (have c18b1 : decide (a0_0 = a1_0 && (a0_1 == a1_1)) = true := by simpa using c18))
     (try (have c18b2 : (a0_0 == a1_0 && (a0_1 == a1_1)) = true := by simpa using c18))
     clear c18
     obtain rfl := Option.some.inj H
     have hnb19 := NB278_279.out
     have hnc19 := NB279_278.out
     have hcz20_0 : wc.cell? ⟨gb278, 0, none⟩ = some (.int .u64 a0_0) := (blk_cell BK278.out 0).trans rfl
     have hcz20_1 : wc.cell? ⟨gb278, 1, none⟩ = some (.int .u64 a0_1) := (blk_cell BK278.out 1).trans rfl
     have hfz20_0 := blk_frozen BK278.out 0
     have hfz20_1 := blk_frozen BK278.out 1
     have hcz21_0 : wc.cell? ⟨gb279, 0, none⟩ = some (.int .u64 a1_0) := (blk_cell BK279.out 0).trans rfl
     have hcz21_1 : wc.cell? ⟨gb279, 1, none⟩ = some (.int .u64 a1_1) := (blk_cell BK279.out 1).trans rfl
     have hfz21_0 := blk_frozen BK279.out 0
     have hfz21_1 := blk_frozen BK279.out 1
     go_wp2
     go_ret
     exact ⟨by first | rfl | (simp [errW_none, errW_some] <;> rfl) | (simp [*, errW_none, errW_some] <;> rfl), bA⟩
    ·rw [if_neg c18] at H
     have c18b0 : (a0_0 == a1_0 && (a0_1 == a1_1)) = false := by simpa using c18
     (try (have c18b1 : decide (a0_0 = a1_0 && (a0_1 == a1_1)) = false := by simpa using c18))
     (try (have c18b2 : (a0_0 == a1_0 && (a0_1 == a1_1)) = false := by simpa using c18))
     (try (have c18b3 : ¬ (a0_0 = a1_0 && (a0_1 == a1_1)) := by simpa using c18))
     clear c18
     obtain rfl := Option.some.inj H
     have hnb22 := NB278_279.out
     have hnc22 := NB279_278.out
     have hcz23_0 : wc.cell? ⟨gb278, 0, none⟩ = some (.int .u64 a0_0) := (blk_cell BK278.out 0).trans rfl
     have hcz23_1 : wc.cell? ⟨gb278, 1, none⟩ = some (.int .u64 a0_1) := (blk_cell BK278.out 1).trans rfl
     have hfz23_0 := blk_frozen BK278.out 0
     have hfz23_1 := blk_frozen BK278.out 1
     have hcz24_0 : wc.cell? ⟨gb279, 0, none⟩ = some (.int .u64 a1_0) := (blk_cell BK279.out 0).trans rfl
     have hcz24_1 : wc.cell? ⟨gb279, 1, none⟩ = some (.int .u64 a1_1) := (blk_cell BK279.out 1).trans rfl
     have hfz24_0 := blk_frozen BK279.out 0
     have hfz24_1 := blk_frozen BK279.out 1
     go_wp2
     go_ret
     exact ⟨by first | rfl | (simp [errW_none, errW_some] <;> rfl) | (simp [*, errW_none, errW_some] <;> rfl), bA⟩

/-! ### backfillref11_C: function 85 -/
def backfillref11_C.f (a0_0 : Int) (a0_1 : Int) (a0_2 : Int) (a0_3 : Int) (a0_4 : Int) (a0_5 : Int) (a0_6 : Int) (a0_7 : Int) : Option (Int) := some (wrap64 (a0_0 * a0_6))
set_option maxHeartbeats 8000000 in
set_option maxRecDepth 100000 in
theorem backfillref11_C.calls (a0_0 : Int) (a0_1 : Int) (a0_2 : Int) (a0_3 : Int) (a0_4 : Int) (a0_5 : Int) (a0_6 : Int) (a0_7 : Int) (r : Int) (w : World) (h : backfillref11_C.f a0_0 a0_1 a0_2 a0_3 a0_4 a0_5 a0_6 a0_7 = some r) :
  Calls Try.prog 85 #[.agg #[.int .i64 a0_0, .int .i64 a0_1, .int .i64 a0_2, .int .i64 a0_3, .int .i64 a0_4, .int .i64 a0_5, .int .i64 a0_6, .int .i64 a0_7]] w fun e w' => e = .returned (.int .i64 r) ∧ Below w.heap.size w w' := by
 have hu39 := Try.underlying39
 have HB := Aside0.mk (Below.refl w.heap.size w)
 have H : (some (wrap64 (a0_0 * a0_6))) = some r := h
 clear h
 obtain rfl := Option.some.inj H
 go_enter Try.func85, Try.ntmps85
 go_wp2_with (first | ((with_reducible refine gate_dst (N := 1) rfl ?_); refine bxA 1 #[.int .i64 a0_0, .int .i64 a0_1, .int .i64 a0_2, .int .i64 a0_3, .int .i64 a0_4, .int .i64 a0_5, .int .i64 a0_6, .int .i64 a0_7] 39 ?_; intro gb280 hg w2 hbox hb; have n0_ := Aside0.mk (below_step bA hb); have n1_ := Aside0.mk (hbox); have n2_ := Aside0.mk (gwA hg bA); have n3_ := Aside0.mk (gwA hg bA); clear HB; have HB := n0_; have BK280 := n1_; have GW280 := n2_; have GE280 := n3_; clear n0_ n1_ n2_ n3_ hb hbox hg; have hcz3_0 : w2.cell? ⟨gb280, 0, none⟩ = some (.int .i64 a0_0) := (blk_cell BK280.out 0).trans rfl; have hcz3_1 : w2.cell? ⟨gb280, 1, none⟩ = some (.int .i64 a0_1) := (blk_cell BK280.out 1).trans rfl; have hcz3_2 : w2.cell? ⟨gb280, 2, none⟩ = some (.int .i64 a0_2) := (blk_cell BK280.out 2).trans rfl; have hcz3_3 : w2.cell? ⟨gb280, 3, none⟩ = some (.int .i64 a0_3) := (blk_cell BK280.out 3).trans rfl; have hcz3_4 : w2.cell? ⟨gb280, 4, none⟩ = some (.int .i64 a0_4) := (blk_cell BK280.out 4).trans rfl; have hcz3_5 : w2.cell? ⟨gb280, 5, none⟩ = some (.int .i64 a0_5) := (blk_cell BK280.out 5).trans rfl; have hcz3_6 : w2.cell? ⟨gb280, 6, none⟩ = some (.int .i64 a0_6) := (blk_cell BK280.out 6).trans rfl; have hcz3_7 : w2.cell? ⟨gb280, 7, none⟩ = some (.int .i64 a0_7) := (blk_cell BK280.out 7).trans rfl; have hfz3_0 := blk_frozen BK280.out 0; have hfz3_1 := blk_frozen BK280.out 1; have hfz3_2 := blk_frozen BK280.out 2; have hfz3_3 := blk_frozen BK280.out 3; have hfz3_4 := blk_frozen BK280.out 4; have hfz3_5 := blk_frozen BK280.out 5; have hfz3_6 := blk_frozen BK280.out 6; have hfz3_7 := blk_frozen BK280.out 7))
 go_ret
 exact ⟨by first | rfl | (simp [errW_none, errW_some] <;> rfl) | (simp [*, errW_none, errW_some] <;> rfl), bA⟩

/-! ### backfillref01_Of: function 93 -/
def backfillref01_Of.f (a0 : Int) : Option (Int × Int) := some (0, a0)
set_option maxHeartbeats 8000000 in
set_option maxRecDepth 100000 in
theorem backfillref01_Of.calls (a0 : Int) (r1 : Int) (r2 : Int) (w : World) (h : backfillref01_Of.f a0 = some (r1, r2)) :
  Calls Try.prog 93 #[.int .u64 a0] w fun e w' => e = .returned (.agg #[.int .u64 r1, .int .u64 r2]) ∧ Below w.heap.size w w' := by
 have hu28 := Try.underlying28
 have HB := Aside0.mk (Below.refl w.heap.size w)
 have H : (some (0, a0)) = some (r1, r2) := h
 clear h
 simp only [Option.some.injEq, Prod.mk.injEq] at H
 obtain ⟨rfl, rfl⟩ := H
 go_enter Try.func93, Try.ntmps93
 go_wp2_with (first | ((with_reducible refine gate_dst (N := 2) rfl ?_); refine bxA 2 #[.int .u64 0, .int .u64 0] 28 ?_; intro gb281 hg w2 hbox hb; have n0_ := Aside0.mk (below_step bA hb); have n1_ := Aside0.mk (hbox); have n2_ := Aside0.mk (gwA hg bA); have n3_ := Aside0.mk (gwA hg bA); clear HB; have HB := n0_; have BK281 := n1_; have GW281 := n2_; have GE281 := n3_; clear n0_ n1_ n2_ n3_ hb hbox hg; have hcz3_0 : w2.cell? ⟨gb281, 0, none⟩ = some (.int .u64 0) := (blk_cell BK281.out 0).trans rfl; have hcz3_1 : w2.cell? ⟨gb281, 1, none⟩ = some (.int .u64 0) := (blk_cell BK281.out 1).trans rfl; have hfz3_0 := blk_frozen BK281.out 0; have hfz3_1 := blk_frozen BK281.out 1))
 refine bodyPost_ret (results_cell_row rfl _ _ gb281 28 #[.int .u64 0, .int .u64 a0] (0, 0) _ rfl (by (with_reducible repeat (first | refine blk_drewN ?_ _ | refine blk_drew ?_ | refine blk_alloc ?_ _)); refine blk_put (cs := #[.int .u64 0, .int .u64 0]) ?_ 1 _ rfl; (with_reducible repeat (first | refine blk_drewN ?_ _ | refine blk_drew ?_ | refine blk_alloc ?_ _)); refine blk_put (cs := #[.int .u64 0, .int .u64 0]) ?_ 0 _ rfl; exact kA) Try.underlying28 rfl (by kernel_rfl)) rfl ?_
 exact ⟨by first | rfl | (simp [errW_none, errW_some] <;> rfl) | (simp [*, errW_none, errW_some] <;> rfl), bA⟩

/-! ### backfillref11_up: function 111 -/
def backfillref11_up.f (a0 : Int) (a1 : Int) : Option (Int) := if a1 = 0 then (none) else (some (wrap64 (Int.tdiv (wrap64 ((wrap64 (a0 + a1)) - 1)) a1)))
set_option maxHeartbeats 8000000 in
set_option maxRecDepth 100000 in
theorem backfillref11_up.calls (a0 : Int) (a1 : Int) (r : Int) (w : World) (h : backfillref11_up.f a0 a1 = some r) :
  Calls Try.prog 111 #[.int .i64 a0, .int .i64 a1] w fun e w' => e = .returned (.int .i64 r) ∧ Drawn0 w w' := by
 have H : (if a1 = 0 then (none) else (some (wrap64 (Int.tdiv (wrap64 ((wrap64 (a0 + a1)) - 1)) a1)))) = some r := h
 clear h
 by_cases c3 : a1 = 0
 ·rw [if_pos c3] at H
  exact absurd H (by simp)
 ·rw [if_neg c3] at H
  have c3b0 : (a1 == 0) = false := beq_eq_false_iff_ne.mpr c3
  have c3b1 : (a1 != 0) = true := bne_iff_ne.mpr c3
  obtain rfl := Option.some.inj H
  go_enter Try.func111, Try.ntmps111
  go_wp2
  go_ret
  exact ⟨by first | rfl | (simp; done) | (simp [*]; done), by repeat (first | exact Drawn0.refl _ | apply Drawn0.step)⟩

/-! ### backfillref10_Exponent: function 112 -/
def backfillref10_Exponent.f (a0 : Int) (a1 : Int) : Option (Int) := if (IntKind.u64.wrap (a1)) = 0 then (none) else (some (IntKind.u64.wrap (Int.tdiv (IntKind.u64.wrap ((IntKind.u64.wrap (a0)) * 4294967296)) (IntKind.u64.wrap (a1)))))
set_option maxHeartbeats 8000000 in
set_option maxRecDepth 100000 in
theorem backfillref10_Exponent.calls (a0 : Int) (a1 : Int) (r : Int) (w : World) (h : backfillref10_Exponent.f a0 a1 = some r) :
  Calls Try.prog 112 #[.int .i64 a0, .int .i64 a1] w fun e w' => e = .returned (.int .u64 r) ∧ Drawn0 w w' := by
 have H : (if (IntKind.u64.wrap (a1)) = 0 then (none) else (some (IntKind.u64.wrap (Int.tdiv (IntKind.u64.wrap ((IntKind.u64.wrap (a0)) * 4294967296)) (IntKind.u64.wrap (a1)))))) = some r := h
 clear h
 by_cases c3 : (IntKind.u64.wrap (a1)) = 0
 ·rw [if_pos c3] at H
  exact absurd H (by simp)
 ·rw [if_neg c3] at H
  have c3b0 : ((IntKind.u64.wrap (a1)) == 0) = false := beq_eq_false_iff_ne.mpr c3
  have c3b1 : ((IntKind.u64.wrap (a1)) != 0) = true := bne_iff_ne.mpr c3
  obtain rfl := Option.some.inj H
  go_enter Try.func112, Try.ntmps112
  go_wp2
  go_ret
  exact ⟨by first | rfl | (simp; done) | (simp [*]; done), by repeat (first | exact Drawn0.refl _ | apply Drawn0.step)⟩

/-! ### backfillref11_K: function 105 -/
def backfillref11_K.f (a0_0 : Int) (a0_1 : Int) (a0_2 : Int) (a0_3 : Int) (a0_4 : Int) (a0_5 : Int) (a0_6 : Int) (a0_7 : Int) : Option (Int) := (backfillref10_Exponent.f a0_6 a0_7).bind fun t283 => ((backfillref11_up.f 8589934592 (wrap64 (t283))).bind fun t284 => (if t284 < 2 then (some 2) else (some t284)))
set_option maxHeartbeats 8000000 in
set_option maxRecDepth 100000 in
theorem backfillref11_K.calls (a0_0 : Int) (a0_1 : Int) (a0_2 : Int) (a0_3 : Int) (a0_4 : Int) (a0_5 : Int) (a0_6 : Int) (a0_7 : Int) (r : Int) (w : World) (h : backfillref11_K.f a0_0 a0_1 a0_2 a0_3 a0_4 a0_5 a0_6 a0_7 = some r) :
  Calls Try.prog 105 #[.agg #[.int .i64 a0_0, .int .i64 a0_1, .int .i64 a0_2, .int .i64 a0_3, .int .i64 a0_4, .int .i64 a0_5, .int .i64 a0_6, .int .i64 a0_7]] w fun e w' => e = .returned (.int .i64 r) ∧ Below w.heap.size w w' := by
 have hu39 := Try.underlying39
 have HB := Aside0.mk (Below.refl w.heap.size w)
 have H : ((backfillref10_Exponent.f a0_6 a0_7).bind fun t283 => ((backfillref11_up.f 8589934592 (wrap64 (t283))).bind fun t284 => (if t284 < 2 then (some 2) else (some t284)))) = some r := h
 clear h; replace H := Option.bind_eq_some_iff.mp H; obtain ⟨t283, A20, H⟩ := H; replace H : ((backfillref11_up.f 8589934592 (wrap64 (t283))).bind fun t284 => (if t284 < 2 then (some 2) else (some t284))) = some r := H; have A2 := Aside0.mk A20; clear A20; replace H := Option.bind_eq_some_iff.mp H; obtain ⟨t284, A30, H⟩ := H; replace H : (if t284 < 2 then (some 2) else (some t284)) = some r := H; have A3 := Aside0.mk A30; clear A30
 by_cases c4 : t284 < 2
 ·rw [if_pos c4] at H
  have c4b0 : decide (t284 < 2) = true := decide_eq_true c4
  clear c4
  obtain rfl := Option.some.inj H
  go_enter Try.func105, Try.ntmps105
  go_wp2_with (first | ((with_reducible refine gate_dst (N := 1) rfl ?_); refine bxA 1 #[.int .i64 a0_0, .int .i64 a0_1, .int .i64 a0_2, .int .i64 a0_3, .int .i64 a0_4, .int .i64 a0_5, .int .i64 a0_6, .int .i64 a0_7] 39 ?_; intro gb282 hg w5 hbox hb; have n0_ := Aside0.mk (below_step bA hb); have n1_ := Aside0.mk (hbox); have n2_ := Aside0.mk (gwA hg bA); have n3_ := Aside0.mk (gwA hg bA); clear HB; have HB := n0_; have BK282 := n1_; have GW282 := n2_; have GE282 := n3_; clear n0_ n1_ n2_ n3_ hb hbox hg; have hcz6_0 : w5.cell? ⟨gb282, 0, none⟩ = some (.int .i64 a0_0) := (blk_cell BK282.out 0).trans rfl; have hcz6_1 : w5.cell? ⟨gb282, 1, none⟩ = some (.int .i64 a0_1) := (blk_cell BK282.out 1).trans rfl; have hcz6_2 : w5.cell? ⟨gb282, 2, none⟩ = some (.int .i64 a0_2) := (blk_cell BK282.out 2).trans rfl; have hcz6_3 : w5.cell? ⟨gb282, 3, none⟩ = some (.int .i64 a0_3) := (blk_cell BK282.out 3).trans rfl; have hcz6_4 : w5.cell? ⟨gb282, 4, none⟩ = some (.int .i64 a0_4) := (blk_cell BK282.out 4).trans rfl; have hcz6_5 : w5.cell? ⟨gb282, 5, none⟩ = some (.int .i64 a0_5) := (blk_cell BK282.out 5).trans rfl; have hcz6_6 : w5.cell? ⟨gb282, 6, none⟩ = some (.int .i64 a0_6) := (blk_cell BK282.out 6).trans rfl; have hcz6_7 : w5.cell? ⟨gb282, 7, none⟩ = some (.int .i64 a0_7) := (blk_cell BK282.out 7).trans rfl; have hfz6_0 := blk_frozen BK282.out 0; have hfz6_1 := blk_frozen BK282.out 1; have hfz6_2 := blk_frozen BK282.out 2; have hfz6_3 := blk_frozen BK282.out 3; have hfz6_4 := blk_frozen BK282.out 4; have hfz6_5 := blk_frozen BK282.out 5; have hfz6_6 := blk_frozen BK282.out 6; have hfz6_7 := blk_frozen BK282.out 7) | ((with_reducible refine gate_callee (f := 112) rfl ?_); refine goesL_ (some 9) rfl rfl Try.func112 (by kernel_rfl) rfl #[.int .i64 a0_6, .int .i64 a0_7] rfl aA ?_; (with_reducible refine (backfillref10_Exponent.calls a0_6 a0_7 t283 _ A2.out).mono ?_); rintro e w' ⟨rfl, ⟨nd, rfl⟩⟩; refine ⟨_, rfl, ?_⟩) | ((with_reducible refine gate_callee (f := 111) rfl ?_); refine goesL_ (some 12) rfl rfl Try.func111 (by kernel_rfl) rfl #[.int .i64 8589934592, .int .i64 (wrap64 (t283))] rfl aA ?_; (with_reducible refine (backfillref11_up.calls 8589934592 (wrap64 (t283)) t284 _ A3.out).mono ?_); rintro e w' ⟨rfl, ⟨nd, rfl⟩⟩; refine ⟨_, rfl, ?_⟩))
  go_ret
  exact ⟨by first | rfl | (simp [errW_none, errW_some] <;> rfl) | (simp [*, errW_none, errW_some] <;> rfl), bA⟩
 ·rw [if_neg c4] at H
  have c4b0 : decide (t284 < 2) = false := decide_eq_false c4
  clear c4
  obtain rfl := Option.some.inj H
  go_enter Try.func105, Try.ntmps105
  go_wp2_with (first | ((with_reducible refine gate_dst (N := 1) rfl ?_); refine bxA 1 #[.int .i64 a0_0, .int .i64 a0_1, .int .i64 a0_2, .int .i64 a0_3, .int .i64 a0_4, .int .i64 a0_5, .int .i64 a0_6, .int .i64 a0_7] 39 ?_; intro gb282 hg w7 hbox hb; have n0_ := Aside0.mk (below_step bA hb); have n1_ := Aside0.mk (hbox); have n2_ := Aside0.mk (gwA hg bA); have n3_ := Aside0.mk (gwA hg bA); clear HB; have HB := n0_; have BK282 := n1_; have GW282 := n2_; have GE282 := n3_; clear n0_ n1_ n2_ n3_ hb hbox hg; have hcz8_0 : w7.cell? ⟨gb282, 0, none⟩ = some (.int .i64 a0_0) := (blk_cell BK282.out 0).trans rfl; have hcz8_1 : w7.cell? ⟨gb282, 1, none⟩ = some (.int .i64 a0_1) := (blk_cell BK282.out 1).trans rfl; have hcz8_2 : w7.cell? ⟨gb282, 2, none⟩ = some (.int .i64 a0_2) := (blk_cell BK282.out 2).trans rfl; have hcz8_3 : w7.cell? ⟨gb282, 3, none⟩ = some (.int .i64 a0_3) := (blk_cell BK282.out 3).trans rfl; have hcz8_4 : w7.cell? ⟨gb282, 4, none⟩ = some (.int .i64 a0_4) := (blk_cell BK282.out 4).trans rfl; have hcz8_5 : w7.cell? ⟨gb282, 5, none⟩ = some (.int .i64 a0_5) := (blk_cell BK282.out 5).trans rfl; have hcz8_6 : w7.cell? ⟨gb282, 6, none⟩ = some (.int .i64 a0_6) := (blk_cell BK282.out 6).trans rfl; have hcz8_7 : w7.cell? ⟨gb282, 7, none⟩ = some (.int .i64 a0_7) := (blk_cell BK282.out 7).trans rfl; have hfz8_0 := blk_frozen BK282.out 0; have hfz8_1 := blk_frozen BK282.out 1; have hfz8_2 := blk_frozen BK282.out 2; have hfz8_3 := blk_frozen BK282.out 3; have hfz8_4 := blk_frozen BK282.out 4; have hfz8_5 := blk_frozen BK282.out 5; have hfz8_6 := blk_frozen BK282.out 6; have hfz8_7 := blk_frozen BK282.out 7) | ((with_reducible refine gate_callee (f := 112) rfl ?_); refine goesL_ (some 9) rfl rfl Try.func112 (by kernel_rfl) rfl #[.int .i64 a0_6, .int .i64 a0_7] rfl aA ?_; (with_reducible refine (backfillref10_Exponent.calls a0_6 a0_7 t283 _ A2.out).mono ?_); rintro e w' ⟨rfl, ⟨nd, rfl⟩⟩; refine ⟨_, rfl, ?_⟩) | ((with_reducible refine gate_callee (f := 111) rfl ?_); refine goesL_ (some 12) rfl rfl Try.func111 (by kernel_rfl) rfl #[.int .i64 8589934592, .int .i64 (wrap64 (t283))] rfl aA ?_; (with_reducible refine (backfillref11_up.calls 8589934592 (wrap64 (t283)) t284 _ A3.out).mono ?_); rintro e w' ⟨rfl, ⟨nd, rfl⟩⟩; refine ⟨_, rfl, ?_⟩))
  go_ret
  exact ⟨by first | rfl | (simp [errW_none, errW_some] <;> rfl) | (simp [*, errW_none, errW_some] <;> rfl), bA⟩

/-! ### backfillref11_M: function 78 -/
def backfillref11_M.f (a0_0 : Int) (a0_1 : Int) (a0_2 : Int) (a0_3 : Int) (a0_4 : Int) (a0_5 : Int) (a0_6 : Int) (a0_7 : Int) : Option (Int) := (backfillref11_C.f a0_0 a0_1 a0_2 a0_3 a0_4 a0_5 a0_6 a0_7).bind fun t286 => ((backfillref11_K.f a0_0 a0_1 a0_2 a0_3 a0_4 a0_5 a0_6 a0_7).bind fun t287 => (some (wrap64 (t286 * t287))))
set_option maxHeartbeats 8000000 in
set_option maxRecDepth 100000 in
theorem backfillref11_M.calls (a0_0 : Int) (a0_1 : Int) (a0_2 : Int) (a0_3 : Int) (a0_4 : Int) (a0_5 : Int) (a0_6 : Int) (a0_7 : Int) (r : Int) (w : World) (h : backfillref11_M.f a0_0 a0_1 a0_2 a0_3 a0_4 a0_5 a0_6 a0_7 = some r) :
  Calls Try.prog 78 #[.agg #[.int .i64 a0_0, .int .i64 a0_1, .int .i64 a0_2, .int .i64 a0_3, .int .i64 a0_4, .int .i64 a0_5, .int .i64 a0_6, .int .i64 a0_7]] w fun e w' => e = .returned (.int .i64 r) ∧ Below w.heap.size w w' := by
 have hu39 := Try.underlying39
 have HB := Aside0.mk (Below.refl w.heap.size w)
 have H : ((backfillref11_C.f a0_0 a0_1 a0_2 a0_3 a0_4 a0_5 a0_6 a0_7).bind fun t286 => ((backfillref11_K.f a0_0 a0_1 a0_2 a0_3 a0_4 a0_5 a0_6 a0_7).bind fun t287 => (some (wrap64 (t286 * t287))))) = some r := h
 clear h; replace H := Option.bind_eq_some_iff.mp H; obtain ⟨t286, A20, H⟩ := H; replace H : ((backfillref11_K.f a0_0 a0_1 a0_2 a0_3 a0_4 a0_5 a0_6 a0_7).bind fun t287 => (some (wrap64 (t286 * t287)))) = some r := H; have A2 := Aside0.mk A20; clear A20; replace H := Option.bind_eq_some_iff.mp H; obtain ⟨t287, A30, H⟩ := H; replace H : (some (wrap64 (t286 * t287))) = some r := H; have A3 := Aside0.mk A30; clear A30
 obtain rfl := Option.some.inj H
 go_enter Try.func78, Try.ntmps78
 try go_wp2_with (first | ((with_reducible refine gate_dst (N := 1) rfl ?_); refine bxA 1 #[.int .i64 a0_0, .int .i64 a0_1, .int .i64 a0_2, .int .i64 a0_3, .int .i64 a0_4, .int .i64 a0_5, .int .i64 a0_6, .int .i64 a0_7] 39 ?_; intro gb285 hg w4 hbox hb; have n0_ := Aside0.mk (below_step bA hb); have n1_ := Aside0.mk (hbox); have n2_ := Aside0.mk (gwA hg bA); have n3_ := Aside0.mk (gwA hg bA); clear HB; have HB := n0_; have BK285 := n1_; have GW285 := n2_; have GE285 := n3_; clear n0_ n1_ n2_ n3_ hb hbox hg))
 have n0_ := Aside0.mk (blk_drew BK285.out); have n1_ := Aside0.mk (below_drew1 HB.out); clear BK285 HB; have BK285 := n0_; have HB := n1_; clear n0_ n1_
 refine start_ (n := 6) (S := fun w' => w'.cell? ⟨gb285, 0, none⟩ = some (.int .i64 a0_0) ∧ w'.cell? ⟨gb285, 1, none⟩ = some (.int .i64 a0_1) ∧ w'.cell? ⟨gb285, 2, none⟩ = some (.int .i64 a0_2) ∧ w'.cell? ⟨gb285, 3, none⟩ = some (.int .i64 a0_3) ∧ w'.cell? ⟨gb285, 4, none⟩ = some (.int .i64 a0_4) ∧ w'.cell? ⟨gb285, 5, none⟩ = some (.int .i64 a0_5) ∧ w'.cell? ⟨gb285, 6, none⟩ = some (.int .i64 a0_6) ∧ w'.cell? ⟨gb285, 7, none⟩ = some (.int .i64 a0_7)) (ds := []) #[false, false, false, false, false, false] (by kernel_rfl) rfl rfl ⟨(blk_cell BK285.out 0).trans rfl, (blk_cell BK285.out 1).trans rfl, (blk_cell BK285.out 2).trans rfl, (blk_cell BK285.out 3).trans rfl, (blk_cell BK285.out 4).trans rfl, (blk_cell BK285.out 5).trans rfl, (blk_cell BK285.out 6).trans rfl, (blk_cell BK285.out 7).trans rfl⟩ (fun hHeld => ?_)
 generalize w4.drew = w5 at BK285 HB hHeld ⊢
 refine take_ (i := 0) (N := some 3) (v := ?_) (a' := ?_) #[true, false, false, false, false, false] rfl rfl (by kernel_rfl) (fun _ _ _ h => h) (Or.inl ⟨by rfl, ?_⟩) hHeld ?_ ?_
 rotate_left
 ·rintro w' ⟨s0, s1, s2, s3, s4, s5, s6, s7⟩
  go_simp; with_reducible rfl
 rotate_left
 ·simp only [Act.put, List.setIfInBounds_toArray, List.set_cons_zero, List.set_cons_succ, i64_w, i32_w]
  rfl
 refine take_ (i := 2) (N := some 5) (v := ?_) (a' := ?_) #[true, false, true, false, false, false] rfl rfl (by kernel_rfl) (fun _ _ _ h => h) (Or.inl ⟨by rfl, ?_⟩) hHeld ?_ ?_
 rotate_left
 ·rintro w' ⟨s0, s1, s2, s3, s4, s5, s6, s7⟩
  go_simp; with_reducible rfl
 rotate_left
 ·simp only [Act.put, List.setIfInBounds_toArray, List.set_cons_zero, List.set_cons_succ, i64_w, i32_w]
  rfl
 refine one_ (i := 1) (N := some 4) #[true, true, true, false, false, false] rfl rfl (by kernel_rfl) (by decide) (fun K hK => ?_)
 refine goes_ Try.func85 (by kernel_rfl) rfl #[.agg #[.int .i64 a0_0, .int .i64 a0_1, .int .i64 a0_2, .int .i64 a0_3, .int .i64 a0_4, .int .i64 a0_5, .int .i64 a0_6, .int .i64 a0_7]] (by rfl) rfl rfl aA ?_
 with_reducible refine (backfillref11_C.calls a0_0 a0_1 a0_2 a0_3 a0_4 a0_5 a0_6 a0_7 t286 _ A2.out).mono ?_
 rintro e w6 ⟨rfl, hb⟩
 refine ⟨_, rfl, ?_⟩; have n0_ := Aside0.mk (blk_below (g := gb285) kA hb); have n1_ := Aside0.mk (below_step bA hb); clear BK285 HB; have BK285 := n0_; have HB := n1_; clear n0_ n1_; (try clear hb)
 refine hK.out _ _ ⟨(blk_cell BK285.out 0).trans rfl, (blk_cell BK285.out 1).trans rfl, (blk_cell BK285.out 2).trans rfl, (blk_cell BK285.out 3).trans rfl, (blk_cell BK285.out 4).trans rfl, (blk_cell BK285.out 5).trans rfl, (blk_cell BK285.out 6).trans rfl, (blk_cell BK285.out 7).trans rfl⟩ (fun hHeld => ?_)
 clear hK K
 refine norm_ (a' := ?_) ?_ ?_
 rotate_left
 ·show Act.put _ (some 4) _ = _
  simp only [Act.put, List.setIfInBounds_toArray, List.set_cons_zero, List.set_cons_succ, i64_w, i32_w]
  rfl
 refine one_ (i := 3) (N := some 6) #[true, true, true, true, false, false] rfl rfl (by kernel_rfl) (by decide) (fun K hK => ?_)
 refine goes_ Try.func105 (by kernel_rfl) rfl #[.agg #[.int .i64 a0_0, .int .i64 a0_1, .int .i64 a0_2, .int .i64 a0_3, .int .i64 a0_4, .int .i64 a0_5, .int .i64 a0_6, .int .i64 a0_7]] (by rfl) rfl rfl aA ?_
 with_reducible refine (backfillref11_K.calls a0_0 a0_1 a0_2 a0_3 a0_4 a0_5 a0_6 a0_7 t287 _ A3.out).mono ?_
 rintro e w7 ⟨rfl, hb⟩
 refine ⟨_, rfl, ?_⟩; have n0_ := Aside0.mk (blk_below (g := gb285) kA hb); have n1_ := Aside0.mk (below_step bA hb); clear BK285 HB; have BK285 := n0_; have HB := n1_; clear n0_ n1_; (try clear hb)
 refine hK.out _ _ ⟨(blk_cell BK285.out 0).trans rfl, (blk_cell BK285.out 1).trans rfl, (blk_cell BK285.out 2).trans rfl, (blk_cell BK285.out 3).trans rfl, (blk_cell BK285.out 4).trans rfl, (blk_cell BK285.out 5).trans rfl, (blk_cell BK285.out 6).trans rfl, (blk_cell BK285.out 7).trans rfl⟩ (fun hHeld => ?_)
 clear hK K
 refine norm_ (a' := ?_) ?_ ?_
 rotate_left
 ·show Act.put _ (some 6) _ = _
  simp only [Act.put, List.setIfInBounds_toArray, List.set_cons_zero, List.set_cons_succ, i64_w, i32_w]
  rfl
 refine pure_ (i := 4) (N := some 7) (v := ?_) (a' := ?_) #[true, true, true, true, true, false] rfl rfl (by kernel_rfl) (fun _ _ _ h => h) (Or.inl ⟨by rfl, ?_⟩) ?_ ?_
 rotate_left
 ·intro w'
  go_simp; with_reducible rfl
 rotate_left
 ·simp only [Act.put, List.setIfInBounds_toArray, List.set_cons_zero, List.set_cons_succ, i64_w, i32_w]
  rfl
 refine pure_ (i := 5) (N := some 2) (v := ?_) (a' := ?_) #[true, true, true, true, true, true] rfl rfl (by kernel_rfl) (fun _ _ _ h => h) (Or.inl ⟨by rfl, ?_⟩) ?_ ?_
 rotate_left
 ·intro w'
  go_simp; with_reducible rfl
 rotate_left
 ·simp only [Act.put, List.setIfInBounds_toArray, List.set_cons_zero, List.set_cons_succ, i64_w, i32_w]
  rfl
 refine done_ (by kernel_rfl) ?_
 try go_wp2
 go_ret
 exact ⟨by first | rfl | (simp [errW_none, errW_some] <;> rfl) | (simp [*, errW_none, errW_some] <;> rfl), bA⟩

/-! ### backfillref11_G: function 101 -/
def backfillref11_G.f (a0_0 : Int) (a0_1 : Int) (a0_2 : Int) (a0_3 : Int) (a0_4 : Int) (a0_5 : Int) (a0_6 : Int) (a0_7 : Int) : Option (Int) := (backfillref11_K.f a0_0 a0_1 a0_2 a0_3 a0_4 a0_5 a0_6 a0_7).bind fun t289 => ((backfillref11_M.f a0_0 a0_1 a0_2 a0_3 a0_4 a0_5 a0_6 a0_7).bind fun t290 => ((backfillref11_up.f (wrap64 (t290 * 81)) 2147483648).bind fun t291 => (some (wrap64 (t289 * (wrap64 (1 + t291)))))))
def backfillref11_G.T1 : Bool × List (List Nat × List Nat) := (true, [([], []), ([0], [0]), ([], []), ([2, 1], [2]), ([3], [3]), ([4, 3], [4]), ([5], [5]), ([1, 6], [1, 6]), ([7, 5, 0, 1, 2, 3, 4, 5, 6, 7], [7])])
def backfillref11_G.B1 : List Nat := [0, 1, 0, 7, 15, 31, 63, 127, 255]
theorem backfillref11_G.tab1 : rtab .any (opsOf Try.f101 1) = backfillref11_G.T1 := by kernel_rfl
theorem backfillref11_G.bits1 : waitsOk backfillref11_G.T1.2 backfillref11_G.B1 = true := by kernel_rfl
set_option maxHeartbeats 8000000 in
set_option maxRecDepth 100000 in
theorem backfillref11_G.calls (a0_0 : Int) (a0_1 : Int) (a0_2 : Int) (a0_3 : Int) (a0_4 : Int) (a0_5 : Int) (a0_6 : Int) (a0_7 : Int) (r : Int) (w : World) (h : backfillref11_G.f a0_0 a0_1 a0_2 a0_3 a0_4 a0_5 a0_6 a0_7 = some r) :
  Calls Try.prog 101 #[.agg #[.int .i64 a0_0, .int .i64 a0_1, .int .i64 a0_2, .int .i64 a0_3, .int .i64 a0_4, .int .i64 a0_5, .int .i64 a0_6, .int .i64 a0_7]] w fun e w' => e = .returned (.int .i64 r) ∧ Below w.heap.size w w' := by
 have hu39 := Try.underlying39
 have HB := Aside0.mk (Below.refl w.heap.size w)
 have H : ((backfillref11_K.f a0_0 a0_1 a0_2 a0_3 a0_4 a0_5 a0_6 a0_7).bind fun t289 => ((backfillref11_M.f a0_0 a0_1 a0_2 a0_3 a0_4 a0_5 a0_6 a0_7).bind fun t290 => ((backfillref11_up.f (wrap64 (t290 * 81)) 2147483648).bind fun t291 => (some (wrap64 (t289 * (wrap64 (1 + t291)))))))) = some r := h
 clear h; replace H := Option.bind_eq_some_iff.mp H; obtain ⟨t289, A20, H⟩ := H; replace H : ((backfillref11_M.f a0_0 a0_1 a0_2 a0_3 a0_4 a0_5 a0_6 a0_7).bind fun t290 => ((backfillref11_up.f (wrap64 (t290 * 81)) 2147483648).bind fun t291 => (some (wrap64 (t289 * (wrap64 (1 + t291))))))) = some r := H; have A2 := Aside0.mk A20; clear A20; replace H := Option.bind_eq_some_iff.mp H; obtain ⟨t290, A30, H⟩ := H; replace H : ((backfillref11_up.f (wrap64 (t290 * 81)) 2147483648).bind fun t291 => (some (wrap64 (t289 * (wrap64 (1 + t291)))))) = some r := H; have A3 := Aside0.mk A30; clear A30; replace H := Option.bind_eq_some_iff.mp H; obtain ⟨t291, A40, H⟩ := H; replace H : (some (wrap64 (t289 * (wrap64 (1 + t291))))) = some r := H; have A4 := Aside0.mk A40; clear A40
 obtain rfl := Option.some.inj H
 go_enter Try.func101, Try.ntmps101
 try go_wp2_with (first | ((with_reducible refine gate_dst (N := 1) rfl ?_); refine bxA 1 #[.int .i64 a0_0, .int .i64 a0_1, .int .i64 a0_2, .int .i64 a0_3, .int .i64 a0_4, .int .i64 a0_5, .int .i64 a0_6, .int .i64 a0_7] 39 ?_; intro gb288 hg w5 hbox hb; have n0_ := Aside0.mk (below_step bA hb); have n1_ := Aside0.mk (hbox); have n2_ := Aside0.mk (gwA hg bA); have n3_ := Aside0.mk (gwA hg bA); clear HB; have HB := n0_; have BK288 := n1_; have GW288 := n2_; have GE288 := n3_; clear n0_ n1_ n2_ n3_ hb hbox hg))
 have n0_ := Aside0.mk (blk_drew BK288.out); have n1_ := Aside0.mk (below_drew1 HB.out); clear BK288 HB; have BK288 := n0_; have HB := n1_; clear n0_ n1_
 refine start_ (n := 9) (S := fun w' => w'.cell? ⟨gb288, 0, none⟩ = some (.int .i64 a0_0) ∧ w'.cell? ⟨gb288, 1, none⟩ = some (.int .i64 a0_1) ∧ w'.cell? ⟨gb288, 2, none⟩ = some (.int .i64 a0_2) ∧ w'.cell? ⟨gb288, 3, none⟩ = some (.int .i64 a0_3) ∧ w'.cell? ⟨gb288, 4, none⟩ = some (.int .i64 a0_4) ∧ w'.cell? ⟨gb288, 5, none⟩ = some (.int .i64 a0_5) ∧ w'.cell? ⟨gb288, 6, none⟩ = some (.int .i64 a0_6) ∧ w'.cell? ⟨gb288, 7, none⟩ = some (.int .i64 a0_7)) (ds := []) #[false, false, false, false, false, false, false, false, false] (by kernel_rfl) rfl rfl ⟨(blk_cell BK288.out 0).trans rfl, (blk_cell BK288.out 1).trans rfl, (blk_cell BK288.out 2).trans rfl, (blk_cell BK288.out 3).trans rfl, (blk_cell BK288.out 4).trans rfl, (blk_cell BK288.out 5).trans rfl, (blk_cell BK288.out 6).trans rfl, (blk_cell BK288.out 7).trans rfl⟩ (fun hHeld => ?_); refine with_tabW backfillref11_G.tab1 backfillref11_G.bits1 (fun HT_ HW_ => ?_)
 generalize w5.drew = w6 at BK288 HB hHeld ⊢
 refine take_ (i := 0) (N := some 3) (v := ?_) (a' := ?_) #[true, false, false, false, false, false, false, false, false] rfl rfl (take_ofW HT_.out HW_.out (by kernel_rfl)) (fun _ _ _ h => h) (Or.inl ⟨by rfl, ?_⟩) hHeld ?_ ?_
 rotate_left
 ·rintro w' ⟨s0, s1, s2, s3, s4, s5, s6, s7⟩
  go_simp; with_reducible rfl
 rotate_left
 ·simp only [Act.put, List.setIfInBounds_toArray, List.set_cons_zero, List.set_cons_succ, i64_w, i32_w]
  rfl
 refine take_ (i := 2) (N := some 5) (v := ?_) (a' := ?_) #[true, false, true, false, false, false, false, false, false] rfl rfl (take_ofW HT_.out HW_.out (by kernel_rfl)) (fun _ _ _ h => h) (Or.inl ⟨by rfl, ?_⟩) hHeld ?_ ?_
 rotate_left
 ·rintro w' ⟨s0, s1, s2, s3, s4, s5, s6, s7⟩
  go_simp; with_reducible rfl
 rotate_left
 ·simp only [Act.put, List.setIfInBounds_toArray, List.set_cons_zero, List.set_cons_succ, i64_w, i32_w]
  rfl
 refine one_ (i := 1) (N := some 4) #[true, true, true, false, false, false, false, false, false] rfl rfl (one_of HT_.out (by kernel_rfl)) (by decide) (fun K hK => ?_)
 refine goes_ Try.func105 (by kernel_rfl) rfl #[.agg #[.int .i64 a0_0, .int .i64 a0_1, .int .i64 a0_2, .int .i64 a0_3, .int .i64 a0_4, .int .i64 a0_5, .int .i64 a0_6, .int .i64 a0_7]] (by rfl) rfl rfl aA ?_
 with_reducible refine (backfillref11_K.calls a0_0 a0_1 a0_2 a0_3 a0_4 a0_5 a0_6 a0_7 t289 _ A2.out).mono ?_
 rintro e w7 ⟨rfl, hb⟩
 refine ⟨_, rfl, ?_⟩; have n0_ := Aside0.mk (blk_below (g := gb288) kA hb); have n1_ := Aside0.mk (below_step bA hb); clear BK288 HB; have BK288 := n0_; have HB := n1_; clear n0_ n1_; (try clear hb)
 refine hK.out _ _ ⟨(blk_cell BK288.out 0).trans rfl, (blk_cell BK288.out 1).trans rfl, (blk_cell BK288.out 2).trans rfl, (blk_cell BK288.out 3).trans rfl, (blk_cell BK288.out 4).trans rfl, (blk_cell BK288.out 5).trans rfl, (blk_cell BK288.out 6).trans rfl, (blk_cell BK288.out 7).trans rfl⟩ (fun hHeld => ?_)
 clear hK K
 refine norm_ (a' := ?_) ?_ ?_
 rotate_left
 ·show Act.put _ (some 4) _ = _
  simp only [Act.put, List.setIfInBounds_toArray, List.set_cons_zero, List.set_cons_succ, i64_w, i32_w]
  rfl
 refine one_ (i := 3) (N := some 6) #[true, true, true, true, false, false, false, false, false] rfl rfl (one_of HT_.out (by kernel_rfl)) (by decide) (fun K hK => ?_)
 refine goes_ Try.func78 (by kernel_rfl) rfl #[.agg #[.int .i64 a0_0, .int .i64 a0_1, .int .i64 a0_2, .int .i64 a0_3, .int .i64 a0_4, .int .i64 a0_5, .int .i64 a0_6, .int .i64 a0_7]] (by rfl) rfl rfl aA ?_
 with_reducible refine (backfillref11_M.calls a0_0 a0_1 a0_2 a0_3 a0_4 a0_5 a0_6 a0_7 t290 _ A3.out).mono ?_
 rintro e w8 ⟨rfl, hb⟩
 refine ⟨_, rfl, ?_⟩; have n0_ := Aside0.mk (blk_below (g := gb288) kA hb); have n1_ := Aside0.mk (below_step bA hb); clear BK288 HB; have BK288 := n0_; have HB := n1_; clear n0_ n1_; (try clear hb)
 refine hK.out _ _ ⟨(blk_cell BK288.out 0).trans rfl, (blk_cell BK288.out 1).trans rfl, (blk_cell BK288.out 2).trans rfl, (blk_cell BK288.out 3).trans rfl, (blk_cell BK288.out 4).trans rfl, (blk_cell BK288.out 5).trans rfl, (blk_cell BK288.out 6).trans rfl, (blk_cell BK288.out 7).trans rfl⟩ (fun hHeld => ?_)
 clear hK K
 refine norm_ (a' := ?_) ?_ ?_
 rotate_left
 ·show Act.put _ (some 6) _ = _
  simp only [Act.put, List.setIfInBounds_toArray, List.set_cons_zero, List.set_cons_succ, i64_w, i32_w]
  rfl
 refine pure_ (i := 4) (N := some 7) (v := ?_) (a' := ?_) #[true, true, true, true, true, false, false, false, false] rfl rfl (any_of HT_.out (by kernel_rfl)) (fun _ _ _ h => h) (Or.inl ⟨by rfl, ?_⟩) ?_ ?_
 rotate_left
 ·intro w'
  go_simp; with_reducible rfl
 rotate_left
 ·simp only [Act.put, List.setIfInBounds_toArray, List.set_cons_zero, List.set_cons_succ, i64_w, i32_w]
  rfl
 refine one_ (i := 5) (N := some 8) #[true, true, true, true, true, true, false, false, false] rfl rfl (one_of HT_.out (by kernel_rfl)) (by decide) (fun K hK => ?_)
 refine goes_ Try.func111 (by kernel_rfl) rfl #[.int .i64 (wrap64 (t290 * 81)), .int .i64 2147483648] (by rfl) rfl rfl aA ?_
 with_reducible refine (backfillref11_up.calls (wrap64 (t290 * 81)) 2147483648 t291 _ A4.out).mono ?_
 rintro e w' ⟨rfl, ⟨nd, rfl⟩⟩
 refine ⟨_, rfl, ?_⟩
 refine hK.out _ _ ⟨(blk_cell BK288.out 0).trans rfl, (blk_cell BK288.out 1).trans rfl, (blk_cell BK288.out 2).trans rfl, (blk_cell BK288.out 3).trans rfl, (blk_cell BK288.out 4).trans rfl, (blk_cell BK288.out 5).trans rfl, (blk_cell BK288.out 6).trans rfl, (blk_cell BK288.out 7).trans rfl⟩ (fun hHeld => ?_)
 clear hK K
 refine norm_ (a' := ?_) ?_ ?_
 rotate_left
 ·show Act.put _ (some 8) _ = _
  simp only [Act.put, List.setIfInBounds_toArray, List.set_cons_zero, List.set_cons_succ, i64_w, i32_w]
  rfl
 refine pure_ (i := 6) (N := some 9) (v := ?_) (a' := ?_) #[true, true, true, true, true, true, true, false, false] rfl rfl (any_of HT_.out (by kernel_rfl)) (fun _ _ _ h => h) (Or.inl ⟨by rfl, ?_⟩) ?_ ?_
 rotate_left
 ·intro w'
  go_simp; with_reducible rfl
 rotate_left
 ·simp only [Act.put, List.setIfInBounds_toArray, List.set_cons_zero, List.set_cons_succ, i64_w, i32_w]
  rfl
 refine pure_ (i := 7) (N := some 10) (v := ?_) (a' := ?_) #[true, true, true, true, true, true, true, true, false] rfl rfl (any_of HT_.out (by kernel_rfl)) (fun _ _ _ h => h) (Or.inl ⟨by rfl, ?_⟩) ?_ ?_
 rotate_left
 ·intro w'
  go_simp; with_reducible rfl
 rotate_left
 ·simp only [Act.put, List.setIfInBounds_toArray, List.set_cons_zero, List.set_cons_succ, i64_w, i32_w]
  rfl
 refine pure_ (i := 8) (N := some 2) (v := ?_) (a' := ?_) #[true, true, true, true, true, true, true, true, true] rfl rfl (any_of HT_.out (by kernel_rfl)) (fun _ _ _ h => h) (Or.inl ⟨by rfl, ?_⟩) ?_ ?_
 rotate_left
 ·intro w'
  go_simp; with_reducible rfl
 rotate_left
 ·simp only [Act.put, List.setIfInBounds_toArray, List.set_cons_zero, List.set_cons_succ, i64_w, i32_w]
  rfl
 refine done_ (done_of HT_.out (by kernel_rfl)) ?_
 try go_wp2
 go_ret
 exact ⟨by first | rfl | (simp [errW_none, errW_some] <;> rfl) | (simp [*, errW_none, errW_some] <;> rfl), bA⟩

end Go.Proofs.Ytcolhngdhlamkaa.GCT
