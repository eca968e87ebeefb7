-- Laid by a program of this session (wip/tools/pr.py): contracts and pure functions; Lean checks it.
import Derived.Test.YtgjjfnjnjnbfgaaDoorGLGx0
import Derived.Test.YtgjjfnjnjnbfgaaDoorGLGx5
namespace Go.Proofs.YtgjjfnjnjnbfgaaDoor.GLG
open Go.RowKit Go.Proofs.YtgjjfnjnjnbfgaaDoorW.PrintWords Go.Proofs.YtgjjfnjnjnbfgaaDoorW.PrintLast Go.Proofs.YtgjjfnjnjnbfgaaDoorW.PrintMore
attribute [local go_sem] max2_int min2_int max_two min_two max_three min_three max_four min_four   -- for this text's walks alone
set_option linter.unusedVariables false
set_option linter.unusedSimpArgs false

/-! ### wide_Cmp: function 69 -/
def wide_Cmp.f (a0_0 : Int) (a0_1 : Int) (a1_0 : Int) (a1_1 : Int) : Option (Int) := if a0_0 = a1_0 then ((cmp_Compare_uint64.f a0_1 a1_1).bind fun t182 => (some t182)) else ((cmp_Compare_uint64.f a0_0 a1_0).bind fun t183 => (some t183))
set_option maxHeartbeats 8000000 in
set_option maxRecDepth 100000 in
theorem wide_Cmp.calls (a0_0 : Int) (a0_1 : Int) (a1_0 : Int) (a1_1 : Int) (r : Int) (w : World) (h : wide_Cmp.f a0_0 a0_1 a1_0 a1_1 = some r) :
  Calls Tryd.prog 69 #[.agg #[.int .u64 a0_0, .int .u64 a0_1], .agg #[.int .u64 a1_0, .int .u64 a1_1]] w fun e w' => e = .returned (.int .i64 r) ∧ Below w.heap.size w w' := by
 have hu87 := Tryd.underlying87
 have HB := Aside0.mk (Below.refl w.heap.size w)
 have H : (if a0_0 = a1_0 then ((cmp_Compare_uint64.f a0_1 a1_1).bind fun t182 => (some t182)) else ((cmp_Compare_uint64.f a0_0 a1_0).bind fun t183 => (some t183))) = some r := h
 clear h
 by_cases c3 : a0_0 = a1_0
 ·rw [if_pos c3] at H
  have c3b0 : (a0_0 == a1_0) = true := beq_iff_eq.mpr c3
  have c3b1 : (a0_0 != a1_0) = false := bne_eq_false_iff_eq.mpr c3
  clear c3; replace H := Option.bind_eq_some_iff.mp H; obtain ⟨t182, A40, H⟩ := H; replace H : (some t182) = some r := H; have A4 := Aside0.mk A40; clear A40
  obtain rfl := Option.some.inj H
  go_enter Tryd.func69, Tryd.ntmps69
  go_wp2_with (first | ((with_reducible refine gate_dst (N := 2) rfl ?_); refine bxA 2 #[.int .u64 a0_0, .int .u64 a0_1] 87 ?_; intro gb180 hg w5 hbox hb; have n0_ := Aside0.mk (below_step bA hb); have n1_ := Aside0.mk (hbox); have n2_ := Aside0.mk (gwA hg bA); have n3_ := Aside0.mk (gwA hg bA); clear HB; have HB := n0_; have BK180 := n1_; have GW180 := n2_; have GE180 := n3_; clear n0_ n1_ n2_ n3_ hb hbox hg) | ((with_reducible refine gate_dst (N := 3) rfl ?_); refine bxA 3 #[.int .u64 a1_0, .int .u64 a1_1] 87 ?_; intro gb181 hg w6 hbox hb; have n0_ := Aside0.mk (blk_below (g := gb180) kA hb); have n1_ := Aside0.mk (below_step bA hb); have n2_ := Aside0.mk (hbox); have n3_ := Aside0.mk (gwA hg bA); have n4_ := Aside0.mk (gwA hg bA); have n5_ := Aside0.mk (neA (g := gb180) hg kA); have n6_ := Aside0.mk (neB (g := gb180) hg kA); clear BK180 HB; have BK180 := n0_; have HB := n1_; have BK181 := n2_; have GW181 := n3_; have GE181 := n4_; have NB180_181 := n5_; have NB181_180 := n6_; clear n0_ n1_ n2_ n3_ n4_ n5_ n6_ hb hbox hg; have hnb7 := NB180_181.out; have hnc7 := NB181_180.out; have hcz8_0 : w6.cell? ⟨gb180, 0, none⟩ = some (.int .u64 a0_0) := (blk_cell BK180.out 0).trans rfl; have hcz8_1 : w6.cell? ⟨gb180, 1, none⟩ = some (.int .u64 a0_1) := (blk_cell BK180.out 1).trans rfl; have hfz8_0 := blk_frozen BK180.out 0; have hfz8_1 := blk_frozen BK180.out 1; have hcz9_0 : w6.cell? ⟨gb181, 0, none⟩ = some (.int .u64 a1_0) := (blk_cell BK181.out 0).trans rfl; have hcz9_1 : w6.cell? ⟨gb181, 1, none⟩ = some (.int .u64 a1_1) := (blk_cell BK181.out 1).trans rfl; have hfz9_0 := blk_frozen BK181.out 0; have hfz9_1 := blk_frozen BK181.out 1) | ((with_reducible refine gate_callee (f := 93) rfl ?_); refine goesL_ (some 19) rfl rfl Tryd.func93 (by kernel_rfl) rfl #[.int .u64 a0_1, .int .u64 a1_1] rfl aA ?_; (with_reducible refine (cmp_Compare_uint64.calls a0_1 a1_1 t182 _ A4.out).mono ?_); rintro e w' ⟨rfl, ⟨nd, rfl⟩⟩; refine ⟨_, rfl, ?_⟩))
  go_ret
  exact ⟨by first | rfl | (simp [errW_none, errW_some] <;> rfl) | (simp [*, errW_none, errW_some] <;> rfl), bA⟩
 ·rw [if_neg c3] at H
  have c3b0 : (a0_0 == a1_0) = false := beq_eq_false_iff_ne.mpr c3
  have c3b1 : (a0_0 != a1_0) = true := bne_iff_ne.mpr c3
  replace H := Option.bind_eq_some_iff.mp H; obtain ⟨t183, A100, H⟩ := H; replace H : (some t183) = some r := H; have A10 := Aside0.mk A100; clear A100
  obtain rfl := Option.some.inj H
  go_enter Tryd.func69, Tryd.ntmps69
  go_wp2_with (first | ((with_reducible refine gate_dst (N := 2) rfl ?_); refine bxA 2 #[.int .u64 a0_0, .int .u64 a0_1] 87 ?_; intro gb180 hg w11 hbox hb; have n0_ := Aside0.mk (below_step bA hb); have n1_ := Aside0.mk (hbox); have n2_ := Aside0.mk (gwA hg bA); have n3_ := Aside0.mk (gwA hg bA); clear HB; have HB := n0_; have BK180 := n1_; have GW180 := n2_; have GE180 := n3_; clear n0_ n1_ n2_ n3_ hb hbox hg) | ((with_reducible refine gate_dst (N := 3) rfl ?_); refine bxA 3 #[.int .u64 a1_0, .int .u64 a1_1] 87 ?_; intro gb181 hg w12 hbox hb; have n0_ := Aside0.mk (blk_below (g := gb180) kA hb); have n1_ := Aside0.mk (below_step bA hb); have n2_ := Aside0.mk (hbox); have n3_ := Aside0.mk (gwA hg bA); have n4_ := Aside0.mk (gwA hg bA); have n5_ := Aside0.mk (neA (g := gb180) hg kA); have n6_ := Aside0.mk (neB (g := gb180) hg kA); clear BK180 HB; have BK180 := n0_; have HB := n1_; have BK181 := n2_; have GW181 := n3_; have GE181 := n4_; have NB180_181 := n5_; have NB181_180 := n6_; clear n0_ n1_ n2_ n3_ n4_ n5_ n6_ hb hbox hg; have hnb13 := NB180_181.out; have hnc13 := NB181_180.out; have hcz14_0 : w12.cell? ⟨gb180, 0, none⟩ = some (.int .u64 a0_0) := (blk_cell BK180.out 0).trans rfl; have hcz14_1 : w12.cell? ⟨gb180, 1, none⟩ = some (.int .u64 a0_1) := (blk_cell BK180.out 1).trans rfl; have hfz14_0 := blk_frozen BK180.out 0; have hfz14_1 := blk_frozen BK180.out 1; have hcz15_0 : w12.cell? ⟨gb181, 0, none⟩ = some (.int .u64 a1_0) := (blk_cell BK181.out 0).trans rfl; have hcz15_1 : w12.cell? ⟨gb181, 1, none⟩ = some (.int .u64 a1_1) := (blk_cell BK181.out 1).trans rfl; have hfz15_0 := blk_frozen BK181.out 0; have hfz15_1 := blk_frozen BK181.out 1) | ((with_reducible refine gate_callee (f := 93) rfl ?_); refine goesL_ (some 14) rfl rfl Tryd.func93 (by kernel_rfl) rfl #[.int .u64 a0_0, .int .u64 a1_0] rfl aA ?_; (with_reducible refine (cmp_Compare_uint64.calls a0_0 a1_0 t183 _ A10.out).mono ?_); rintro e w' ⟨rfl, ⟨nd, rfl⟩⟩; refine ⟨_, rfl, ?_⟩))
  go_ret
  exact ⟨by first | rfl | (simp [errW_none, errW_some] <;> rfl) | (simp [*, errW_none, errW_some] <;> rfl), bA⟩

end Go.Proofs.YtgjjfnjnjnbfgaaDoor.GLG
