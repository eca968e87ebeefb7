-- Laid by a program of this session (wip/tools/pr.py): contracts and pure functions; Lean checks it.
import Derived.Test.YtodibpddlibneaaGPTx0
import Derived.Test.YtodibpddlibneaaGPTx3
import Derived.Test.YtodibpddlibneaaGPTx8
namespace Go.Proofs.Ytodibpddlibneaa.GPT
open Go.RowKit Go.Proofs.YtodibpddlibneaaW.PrintWords Go.Proofs.YtodibpddlibneaaW.PrintLast Go.Proofs.YtodibpddlibneaaW.PrintMore
attribute [local go_sem] max2_int min2_int max_two min_two max_three min_three max_four min_four   -- for this text's walks alone
set_option linter.unusedVariables false
set_option linter.unusedSimpArgs false

/-! ### prio_Priority: function 12 -/
def prio_Priority.j0 : Nat → Int → Int → Bool → Int → Int → Int → Int → Int → Int → Int → Int → Int → Int → Int → Int → Int → Int → Int → List Int → Option (Int)
 | 0, _, _, _, _, _, _, _, _, _, _, _, _, _, _, _, _, _, _, _ => none
 | k + 1, x1, x3, x47, x205000, x205001, x205002, x205003, x205004, x205005, x205006, x205007, x206000, x206001, x206002, x206003, x206004, x206005, x206006, x206007 => if x47 = true then (some 0) else ((wide_Mul.f (IntKind.u64.wrap (x205004)) x3).bind fun bt207 => ((wide_Shr.f bt207.1 bt207.2 63).bind fun bt209 => (some (wrap64 ((wrap64 ((wrap64 (x205003 * (wrap64 (x1 - x206003)))) + (wrap64 (bt209.2)))) + (wrap64 (x205005 * x206001)))))))
def prio_Priority.f (k : Nat) (a0_0 : Int) (a0_1 : Int) (a0_2 : Int) (a0_3 : Int) (a0_4 : Int) (a0_5 : Int) (a0_6 : Int) (a0_7 : Int) (a1 : Int) (a2_0 : Int) (a2_1 : Int) (a2_2 : Int) (a2_3 : Int) (a2_4 : Int) (a2_5 : Int) (a2_6 : Int) (l2_7 : List Int) (a3 : Int) : Option (Int) := (config_Check.f k a0_0 a0_1 a0_2 a0_3 a0_4 a0_5 a0_6 a0_7).bind fun t206 => (if t206 = 0 then (if a1 < 0 then (prio_Priority.j0 k a1 a3 true a0_0 a0_1 a0_2 a0_3 a0_4 a0_5 a0_6 a0_7 a2_0 a2_1 a2_2 a2_3 a2_4 a2_5 a2_6 l2_7) else (if a1 > 1099511627776 then (prio_Priority.j0 k a1 a3 true a0_0 a0_1 a0_2 a0_3 a0_4 a0_5 a0_6 a0_7 a2_0 a2_1 a2_2 a2_3 a2_4 a2_5 a2_6 l2_7) else (if a2_3 < 0 then (prio_Priority.j0 k a1 a3 true a0_0 a0_1 a0_2 a0_3 a0_4 a0_5 a0_6 a0_7 a2_0 a2_1 a2_2 a2_3 a2_4 a2_5 a2_6 l2_7) else (if a2_3 > a1 then (prio_Priority.j0 k a1 a3 true a0_0 a0_1 a0_2 a0_3 a0_4 a0_5 a0_6 a0_7 a2_0 a2_1 a2_2 a2_3 a2_4 a2_5 a2_6 l2_7) else (if a2_1 < 1 then (prio_Priority.j0 k a1 a3 true a0_0 a0_1 a0_2 a0_3 a0_4 a0_5 a0_6 a0_7 a2_0 a2_1 a2_2 a2_3 a2_4 a2_5 a2_6 l2_7) else (if a2_1 > a0_0 then (prio_Priority.j0 k a1 a3 true a0_0 a0_1 a0_2 a0_3 a0_4 a0_5 a0_6 a0_7 a2_0 a2_1 a2_2 a2_3 a2_4 a2_5 a2_6 l2_7) else (prio_Priority.j0 k a1 a3 (decide (a3 > 9223372036854775808)) a0_0 a0_1 a0_2 a0_3 a0_4 a0_5 a0_6 a0_7 a2_0 a2_1 a2_2 a2_3 a2_4 a2_5 a2_6 l2_7))))))) else (prio_Priority.j0 k a1 a3 true a0_0 a0_1 a0_2 a0_3 a0_4 a0_5 a0_6 a0_7 a2_0 a2_1 a2_2 a2_3 a2_4 a2_5 a2_6 l2_7))
theorem prio_Priority.mono_l : ∀ k, (∀ y0 y1 y2 y3 y4 y5 y6 y7 y8 y9 y10 y11 y12 y13 y14 y15 y16 y17 y18, LeO (prio_Priority.j0 k y0 y1 y2 y3 y4 y5 y6 y7 y8 y9 y10 y11 y12 y13 y14 y15 y16 y17 y18) (prio_Priority.j0 (k + 1) y0 y1 y2 y3 y4 y5 y6 y7 y8 y9 y10 y11 y12 y13 y14 y15 y16 y17 y18))
 | 0 => fun _ _ _ _ _ _ _ _ _ _ _ _ _ _ _ _ _ _ _ r h => by simp [prio_Priority.j0] at h
 | k + 1 => by
  have ih0 := prio_Priority.mono_l k
  ·intro y0 y1 y2 y3 y4 y5 y6 y7 y8 y9 y10 y11 y12 y13 y14 y15 y16 y17 y18
   unfold prio_Priority.j0
   repeat' first
   | (with_reducible exact ih0 _ _ _ _ _ _ _ _ _ _ _ _ _ _ _ _ _ _ _)
   | (with_reducible exact config_Check.mono _ _ _ _ _ _ _ _ _)
   | (with_reducible exact LeO.refl _)
   | (with_reducible exact LeO.none _)
   | (with_reducible refine LeO.ite ?_ ?_)
   | (with_reducible refine LeO.bind ?_ (fun _ => ?_))
   | exact ih0 _ _ _ _ _ _ _ _ _ _ _ _ _ _ _ _ _ _ _
   | exact config_Check.mono _ _ _ _ _ _ _ _ _
   | exact LeO.none _
   | refine LeO.ite ?_ ?_
   | refine LeO.bind ?_ (fun _ => ?_)
theorem prio_Priority.mono : ∀ a0 a1 a2 a3 a4 a5 a6 a7 a8 a9 a10 a11 a12 a13 a14 a15 a16 a17 k, LeO (prio_Priority.f k a0 a1 a2 a3 a4 a5 a6 a7 a8 a9 a10 a11 a12 a13 a14 a15 a16 a17) (prio_Priority.f (k + 1) a0 a1 a2 a3 a4 a5 a6 a7 a8 a9 a10 a11 a12 a13 a14 a15 a16 a17) := by
 intro a0 a1 a2 a3 a4 a5 a6 a7 a8 a9 a10 a11 a12 a13 a14 a15 a16 a17 k
 have ih0 := prio_Priority.mono_l k
 unfold prio_Priority.f
 repeat' first
   | (with_reducible exact ih0 _ _ _ _ _ _ _ _ _ _ _ _ _ _ _ _ _ _ _)
   | (with_reducible exact config_Check.mono _ _ _ _ _ _ _ _ _)
   | (with_reducible exact LeO.refl _)
   | (with_reducible exact LeO.none _)
   | (with_reducible refine LeO.ite ?_ ?_)
   | (with_reducible refine LeO.bind ?_ (fun _ => ?_))
   | exact ih0 _ _ _ _ _ _ _ _ _ _ _ _ _ _ _ _ _ _ _
   | exact config_Check.mono _ _ _ _ _ _ _ _ _
   | exact LeO.none _
   | refine LeO.ite ?_ ?_
   | refine LeO.bind ?_ (fun _ => ?_)
set_option maxHeartbeats 8000000 in
set_option maxRecDepth 100000 in
theorem prio_Priority.calls (k : Nat) (a0_0 : Int) (a0_1 : Int) (a0_2 : Int) (a0_3 : Int) (a0_4 : Int) (a0_5 : Int) (a0_6 : Int) (a0_7 : Int) (a1 : Int) (a2_0 : Int) (a2_1 : Int) (a2_2 : Int) (a2_3 : Int) (a2_4 : Int) (a2_5 : Int) (a2_6 : Int) (A2_7 : Option Addr) (c2_7 : Nat) (l2_7 : List Int) (a3 : Int) (r : Int) (w : World) (hr2_7 : Kd.C (Kd.int .i64) w A2_7 l2_7.length l2_7) (hc2_7 : l2_7.length ≤ c2_7) (h : prio_Priority.f k a0_0 a0_1 a0_2 a0_3 a0_4 a0_5 a0_6 a0_7 a1 a2_0 a2_1 a2_2 a2_3 a2_4 a2_5 a2_6 l2_7 a3 = some r) :
  Calls Try.prog 12 #[.agg #[.int .i64 a0_0, .int .i64 a0_1, .int .i64 a0_2, .int .i64 a0_3, .int .i64 a0_4, .int .i64 a0_5, .int .i64 a0_6, .int .i64 a0_7], .int .i64 a1, .agg #[.int .i64 a2_0, .int .i64 a2_1, .int .i64 a2_2, .int .i64 a2_3, .int .i64 a2_4, .int .i64 a2_5, .int .i64 a2_6, .slice A2_7 l2_7.length c2_7], .int .u64 a3] w fun e w' => e = .returned (.int .i64 r) ∧ Below w.heap.size w w' := by
 have hu31 := Try.underlying31
 have hu34 := Try.underlying34
 have hu51 := Try.underlying51
 have HR2_7 := Aside0.mk hr2_7
 have HC2_7 := Aside0.mk hc2_7
 clear hr2_7 hc2_7; have HB := Aside0.mk (Below.refl w.heap.size w)
 have H : ((config_Check.f k a0_0 a0_1 a0_2 a0_3 a0_4 a0_5 a0_6 a0_7).bind fun t206 => (if t206 = 0 then (if a1 < 0 then (prio_Priority.j0 k a1 a3 true a0_0 a0_1 a0_2 a0_3 a0_4 a0_5 a0_6 a0_7 a2_0 a2_1 a2_2 a2_3 a2_4 a2_5 a2_6 l2_7) else (if a1 > 1099511627776 then (prio_Priority.j0 k a1 a3 true a0_0 a0_1 a0_2 a0_3 a0_4 a0_5 a0_6 a0_7 a2_0 a2_1 a2_2 a2_3 a2_4 a2_5 a2_6 l2_7) else (if a2_3 < 0 then (prio_Priority.j0 k a1 a3 true a0_0 a0_1 a0_2 a0_3 a0_4 a0_5 a0_6 a0_7 a2_0 a2_1 a2_2 a2_3 a2_4 a2_5 a2_6 l2_7) else (if a2_3 > a1 then (prio_Priority.j0 k a1 a3 true a0_0 a0_1 a0_2 a0_3 a0_4 a0_5 a0_6 a0_7 a2_0 a2_1 a2_2 a2_3 a2_4 a2_5 a2_6 l2_7) else (if a2_1 < 1 then (prio_Priority.j0 k a1 a3 true a0_0 a0_1 a0_2 a0_3 a0_4 a0_5 a0_6 a0_7 a2_0 a2_1 a2_2 a2_3 a2_4 a2_5 a2_6 l2_7) else (if a2_1 > a0_0 then (prio_Priority.j0 k a1 a3 true a0_0 a0_1 a0_2 a0_3 a0_4 a0_5 a0_6 a0_7 a2_0 a2_1 a2_2 a2_3 a2_4 a2_5 a2_6 l2_7) else (prio_Priority.j0 k a1 a3 (decide (a3 > 9223372036854775808)) a0_0 a0_1 a0_2 a0_3 a0_4 a0_5 a0_6 a0_7 a2_0 a2_1 a2_2 a2_3 a2_4 a2_5 a2_6 l2_7))))))) else (prio_Priority.j0 k a1 a3 true a0_0 a0_1 a0_2 a0_3 a0_4 a0_5 a0_6 a0_7 a2_0 a2_1 a2_2 a2_3 a2_4 a2_5 a2_6 l2_7))) = some r := h
 clear h
 have HC5 := Aside0.mk H
 clear H
 go_enter Try.func12, Try.ntmps12
 go_upto_region 1 with (first | ((with_reducible refine gate_dst (N := 4) rfl ?_); refine bxA 4 #[.int .i64 a0_0, .int .i64 a0_1, .int .i64 a0_2, .int .i64 a0_3, .int .i64 a0_4, .int .i64 a0_5, .int .i64 a0_6, .int .i64 a0_7] 31 ?_; intro gb204 hg w6 hbox hb; have n0_ := Aside0.mk (below_step bA hb); have n1_ := Aside0.mk (hbox); have n2_ := Aside0.mk (gwA hg bA); have n3_ := Aside0.mk (gwA hg bA); clear HB; have HB := n0_; have BK204 := n1_; have GW204 := n2_; have GE204 := n3_; clear n0_ n1_ n2_ n3_ hb hbox hg) | ((with_reducible refine gate_dst (N := 6) rfl ?_); refine bxA 6 #[.int .i64 a2_0, .int .i64 a2_1, .int .i64 a2_2, .int .i64 a2_3, .int .i64 a2_4, .int .i64 a2_5, .int .i64 a2_6, .slice A2_7 l2_7.length c2_7] 34 ?_; intro gb205 hg w7 hbox hb; have n0_ := Aside0.mk (blk_below (g := gb204) kA hb); have n1_ := Aside0.mk (below_step bA hb); have n2_ := Aside0.mk (hbox); have n3_ := Aside0.mk (gwA hg bA); have n4_ := Aside0.mk (gwA hg bA); have n5_ := Aside0.mk (neA (g := gb204) hg kA); have n6_ := Aside0.mk (neB (g := gb204) hg kA); clear BK204 HB; have BK204 := n0_; have HB := n1_; have BK205 := n2_; have GW205 := n3_; have GE205 := n4_; have NB204_205 := n5_; have NB205_204 := n6_; clear n0_ n1_ n2_ n3_ n4_ n5_ n6_ hb hbox hg))
 (try simp only [Act.put, List.setIfInBounds_toArray, List.set_cons_zero, List.set_cons_succ])
 go_cut [47] (fun v47 wc => ∃ (kq : Nat) (x47_4 : Bool), v47 = .bool x47_4 ∧ Aside0 (prio_Priority.j0 kq a1 a3 x47_4 a0_0 a0_1 a0_2 a0_3 a0_4 a0_5 a0_6 a0_7 a2_0 a2_1 a2_2 a2_3 a2_4 a2_5 a2_6 l2_7 = some r) ∧ Aside0 (kq ≤ k) ∧ Aside0 (wc.heap[gb204]? = some (.cells #[.int .i64 a0_0, .int .i64 a0_1, .int .i64 a0_2, .int .i64 a0_3, .int .i64 a0_4, .int .i64 a0_5, .int .i64 a0_6, .int .i64 a0_7] 31 (0, 0))) ∧ Aside0 (wc.heap[gb205]? = some (.cells #[.int .i64 a2_0, .int .i64 a2_1, .int .i64 a2_2, .int .i64 a2_3, .int .i64 a2_4, .int .i64 a2_5, .int .i64 a2_6, (.slice A2_7 l2_7.length c2_7)] 34 (0, 0))) ∧ Aside0 (Below w.heap.size w wc))
 case first =>
  have H := HC5.out
  clear HC5; replace H := Option.bind_eq_some_iff.mp H; obtain ⟨t206, A80, H⟩ := H; replace H : (if t206 = 0 then (if a1 < 0 then (prio_Priority.j0 k a1 a3 true a0_0 a0_1 a0_2 a0_3 a0_4 a0_5 a0_6 a0_7 a2_0 a2_1 a2_2 a2_3 a2_4 a2_5 a2_6 l2_7) else (if a1 > 1099511627776 then (prio_Priority.j0 k a1 a3 true a0_0 a0_1 a0_2 a0_3 a0_4 a0_5 a0_6 a0_7 a2_0 a2_1 a2_2 a2_3 a2_4 a2_5 a2_6 l2_7) else (if a2_3 < 0 then (prio_Priority.j0 k a1 a3 true a0_0 a0_1 a0_2 a0_3 a0_4 a0_5 a0_6 a0_7 a2_0 a2_1 a2_2 a2_3 a2_4 a2_5 a2_6 l2_7) else (if a2_3 > a1 then (prio_Priority.j0 k a1 a3 true a0_0 a0_1 a0_2 a0_3 a0_4 a0_5 a0_6 a0_7 a2_0 a2_1 a2_2 a2_3 a2_4 a2_5 a2_6 l2_7) else (if a2_1 < 1 then (prio_Priority.j0 k a1 a3 true a0_0 a0_1 a0_2 a0_3 a0_4 a0_5 a0_6 a0_7 a2_0 a2_1 a2_2 a2_3 a2_4 a2_5 a2_6 l2_7) else (if a2_1 > a0_0 then (prio_Priority.j0 k a1 a3 true a0_0 a0_1 a0_2 a0_3 a0_4 a0_5 a0_6 a0_7 a2_0 a2_1 a2_2 a2_3 a2_4 a2_5 a2_6 l2_7) else (prio_Priority.j0 k a1 a3 (decide (a3 > 9223372036854775808)) a0_0 a0_1 a0_2 a0_3 a0_4 a0_5 a0_6 a0_7 a2_0 a2_1 a2_2 a2_3 a2_4 a2_5 a2_6 l2_7))))))) else (prio_Priority.j0 k a1 a3 true a0_0 a0_1 a0_2 a0_3 a0_4 a0_5 a0_6 a0_7 a2_0 a2_1 a2_2 a2_3 a2_4 a2_5 a2_6 l2_7)) = some r := H; have A8 := Aside0.mk A80; clear A80
  by_cases c9 : t206 = 0
  ·rw [if_pos c9] at H
   have c9b0 : (t206 == 0) = true := beq_iff_eq.mpr c9
   have c9b1 : (t206 != 0) = false := bne_eq_false_iff_eq.mpr c9
   clear c9
   (first | rw [c9b0] | (simp only [i64_w, i32_w]; rw [c9b0]) | skip)
   by_cases c10 : a1 < 0
   ·rw [if_pos c10] at H
    have c10b0 : decide (a1 < 0) = true := decide_eq_true c10
    clear c10
    have H' := Aside0.mk H
    clear H
    have hnb11 := NB204_205.out
    have hnc11 := NB205_204.out
    have hcz12_0 : w7.cell? ⟨gb204, 0, none⟩ = some (.int .i64 a0_0) := (blk_cell BK204.out 0).trans rfl
    have hcz12_1 : w7.cell? ⟨gb204, 1, none⟩ = some (.int .i64 a0_1) := (blk_cell BK204.out 1).trans rfl
    have hcz12_2 : w7.cell? ⟨gb204, 2, none⟩ = some (.int .i64 a0_2) := (blk_cell BK204.out 2).trans rfl
    have hcz12_3 : w7.cell? ⟨gb204, 3, none⟩ = some (.int .i64 a0_3) := (blk_cell BK204.out 3).trans rfl
    have hcz12_4 : w7.cell? ⟨gb204, 4, none⟩ = some (.int .i64 a0_4) := (blk_cell BK204.out 4).trans rfl
    have hcz12_5 : w7.cell? ⟨gb204, 5, none⟩ = some (.int .i64 a0_5) := (blk_cell BK204.out 5).trans rfl
    have hcz12_6 : w7.cell? ⟨gb204, 6, none⟩ = some (.int .i64 a0_6) := (blk_cell BK204.out 6).trans rfl
    have hcz12_7 : w7.cell? ⟨gb204, 7, none⟩ = some (.int .i64 a0_7) := (blk_cell BK204.out 7).trans rfl
    have hfz12_0 := blk_frozen BK204.out 0
    have hfz12_1 := blk_frozen BK204.out 1
    have hfz12_2 := blk_frozen BK204.out 2
    have hfz12_3 := blk_frozen BK204.out 3
    have hfz12_4 := blk_frozen BK204.out 4
    have hfz12_5 := blk_frozen BK204.out 5
    have hfz12_6 := blk_frozen BK204.out 6
    have hfz12_7 := blk_frozen BK204.out 7
    go_wp2_with (first | ((with_reducible refine gate_callee (f := 21) rfl ?_); refine goesL_ (some 11) rfl rfl Try.func21 (by kernel_rfl) rfl #[.agg #[.int .i64 a0_0, .int .i64 a0_1, .int .i64 a0_2, .int .i64 a0_3, .int .i64 a0_4, .int .i64 a0_5, .int .i64 a0_6, .int .i64 a0_7]] rfl aA ?_; (with_reducible refine (config_Check.calls k a0_0 a0_1 a0_2 a0_3 a0_4 a0_5 a0_6 a0_7 t206 _ A8.out).mono ?_); rintro e w13 ⟨rfl, hb⟩; refine ⟨_, rfl, ?_⟩; have n0_ := Aside0.mk (blk_below (g := gb204) kA hb); have n1_ := Aside0.mk (blk_below (g := gb205) kA hb); have n2_ := Aside0.mk (below_step bA hb); clear BK204 BK205 HB; have BK204 := n0_; have BK205 := n1_; have HB := n2_; clear n0_ n1_ n2_; (try clear hb)))
    go_meet
    case rel => exact ⟨_, (true), (by first | rfl | (simp; done) | (simp [*]; done)), H', ⟨by first | omega | exact Nat.le_refl _⟩, ⟨by exact kA⟩, ⟨by exact kA⟩, ⟨bA⟩⟩
   ·rw [if_neg c10] at H
    have c10b0 : decide (a1 < 0) = false := decide_eq_false c10
    clear c10
    by_cases c14 : a1 > 1099511627776
    ·rw [if_pos c14] at H
     have c14b0 : decide (1099511627776 < a1) = true := decide_eq_true c14
     clear c14
     have H' := Aside0.mk H
     clear H
     have hnb15 := NB204_205.out
     have hnc15 := NB205_204.out
     have hcz16_0 : w7.cell? ⟨gb204, 0, none⟩ = some (.int .i64 a0_0) := (blk_cell BK204.out 0).trans rfl
     have hcz16_1 : w7.cell? ⟨gb204, 1, none⟩ = some (.int .i64 a0_1) := (blk_cell BK204.out 1).trans rfl
     have hcz16_2 : w7.cell? ⟨gb204, 2, none⟩ = some (.int .i64 a0_2) := (blk_cell BK204.out 2).trans rfl
     have hcz16_3 : w7.cell? ⟨gb204, 3, none⟩ = some (.int .i64 a0_3) := (blk_cell BK204.out 3).trans rfl
     have hcz16_4 : w7.cell? ⟨gb204, 4, none⟩ = some (.int .i64 a0_4) := (blk_cell BK204.out 4).trans rfl
     have hcz16_5 : w7.cell? ⟨gb204, 5, none⟩ = some (.int .i64 a0_5) := (blk_cell BK204.out 5).trans rfl
     have hcz16_6 : w7.cell? ⟨gb204, 6, none⟩ = some (.int .i64 a0_6) := (blk_cell BK204.out 6).trans rfl
     have hcz16_7 : w7.cell? ⟨gb204, 7, none⟩ = some (.int .i64 a0_7) := (blk_cell BK204.out 7).trans rfl
     have hfz16_0 := blk_frozen BK204.out 0
     have hfz16_1 := blk_frozen BK204.out 1
     have hfz16_2 := blk_frozen BK204.out 2
     have hfz16_3 := blk_frozen BK204.out 3
     have hfz16_4 := blk_frozen BK204.out 4
     have hfz16_5 := blk_frozen BK204.out 5
     have hfz16_6 := blk_frozen BK204.out 6
     have hfz16_7 := blk_frozen BK204.out 7
     go_wp2_with (first | ((with_reducible refine gate_callee (f := 21) rfl ?_); refine goesL_ (some 11) rfl rfl Try.func21 (by kernel_rfl) rfl #[.agg #[.int .i64 a0_0, .int .i64 a0_1, .int .i64 a0_2, .int .i64 a0_3, .int .i64 a0_4, .int .i64 a0_5, .int .i64 a0_6, .int .i64 a0_7]] rfl aA ?_; (with_reducible refine (config_Check.calls k a0_0 a0_1 a0_2 a0_3 a0_4 a0_5 a0_6 a0_7 t206 _ A8.out).mono ?_); rintro e w17 ⟨rfl, hb⟩; refine ⟨_, rfl, ?_⟩; have n0_ := Aside0.mk (blk_below (g := gb204) kA hb); have n1_ := Aside0.mk (blk_below (g := gb205) kA hb); have n2_ := Aside0.mk (below_step bA hb); clear BK204 BK205 HB; have BK204 := n0_; have BK205 := n1_; have HB := n2_; clear n0_ n1_ n2_; (try clear hb)))
     go_meet
     case rel => exact ⟨_, (true), (by first | rfl | (simp; done) | (simp [*]; done)), H', ⟨by first | omega | exact Nat.le_refl _⟩, ⟨by exact kA⟩, ⟨by exact kA⟩, ⟨bA⟩⟩
    ·rw [if_neg c14] at H
     have c14b0 : decide (1099511627776 < a1) = false := decide_eq_false c14
     clear c14
     by_cases c18 : a2_3 < 0
     ·rw [if_pos c18] at H
      have c18b0 : decide (a2_3 < 0) = true := decide_eq_true c18
      clear c18
      have H' := Aside0.mk H
      clear H
      have hnb19 := NB204_205.out
      have hnc19 := NB205_204.out
      have hcz20_0 : w7.cell? ⟨gb204, 0, none⟩ = some (.int .i64 a0_0) := (blk_cell BK204.out 0).trans rfl
      have hcz20_1 : w7.cell? ⟨gb204, 1, none⟩ = some (.int .i64 a0_1) := (blk_cell BK204.out 1).trans rfl
      have hcz20_2 : w7.cell? ⟨gb204, 2, none⟩ = some (.int .i64 a0_2) := (blk_cell BK204.out 2).trans rfl
      have hcz20_3 : w7.cell? ⟨gb204, 3, none⟩ = some (.int .i64 a0_3) := (blk_cell BK204.out 3).trans rfl
      have hcz20_4 : w7.cell? ⟨gb204, 4, none⟩ = some (.int .i64 a0_4) := (blk_cell BK204.out 4).trans rfl
      have hcz20_5 : w7.cell? ⟨gb204, 5, none⟩ = some (.int .i64 a0_5) := (blk_cell BK204.out 5).trans rfl
      have hcz20_6 : w7.cell? ⟨gb204, 6, none⟩ = some (.int .i64 a0_6) := (blk_cell BK204.out 6).trans rfl
      have hcz20_7 : w7.cell? ⟨gb204, 7, none⟩ = some (.int .i64 a0_7) := (blk_cell BK204.out 7).trans rfl
      have hfz20_0 := blk_frozen BK204.out 0
      have hfz20_1 := blk_frozen BK204.out 1
      have hfz20_2 := blk_frozen BK204.out 2
      have hfz20_3 := blk_frozen BK204.out 3
      have hfz20_4 := blk_frozen BK204.out 4
      have hfz20_5 := blk_frozen BK204.out 5
      have hfz20_6 := blk_frozen BK204.out 6
      have hfz20_7 := blk_frozen BK204.out 7
      go_wp2_with (first | ((with_reducible refine gate_callee (f := 21) rfl ?_); refine goesL_ (some 11) rfl rfl Try.func21 (by kernel_rfl) rfl #[.agg #[.int .i64 a0_0, .int .i64 a0_1, .int .i64 a0_2, .int .i64 a0_3, .int .i64 a0_4, .int .i64 a0_5, .int .i64 a0_6, .int .i64 a0_7]] rfl aA ?_; (with_reducible refine (config_Check.calls k a0_0 a0_1 a0_2 a0_3 a0_4 a0_5 a0_6 a0_7 t206 _ A8.out).mono ?_); rintro e w21 ⟨rfl, hb⟩; refine ⟨_, rfl, ?_⟩; have n0_ := Aside0.mk (blk_below (g := gb204) kA hb); have n1_ := Aside0.mk (blk_below (g := gb205) kA hb); have n2_ := Aside0.mk (below_step bA hb); clear BK204 BK205 HB; have BK204 := n0_; have BK205 := n1_; have HB := n2_; clear n0_ n1_ n2_; (try clear hb); have hcz22_0 : w21.cell? ⟨gb205, 0, none⟩ = some (.int .i64 a2_0) := (blk_cell BK205.out 0).trans rfl; have hcz22_1 : w21.cell? ⟨gb205, 1, none⟩ = some (.int .i64 a2_1) := (blk_cell BK205.out 1).trans rfl; have hcz22_2 : w21.cell? ⟨gb205, 2, none⟩ = some (.int .i64 a2_2) := (blk_cell BK205.out 2).trans rfl; have hcz22_3 : w21.cell? ⟨gb205, 3, none⟩ = some (.int .i64 a2_3) := (blk_cell BK205.out 3).trans rfl; have hcz22_4 : w21.cell? ⟨gb205, 4, none⟩ = some (.int .i64 a2_4) := (blk_cell BK205.out 4).trans rfl; have hcz22_5 : w21.cell? ⟨gb205, 5, none⟩ = some (.int .i64 a2_5) := (blk_cell BK205.out 5).trans rfl; have hcz22_6 : w21.cell? ⟨gb205, 6, none⟩ = some (.int .i64 a2_6) := (blk_cell BK205.out 6).trans rfl; have hcz22_7 : w21.cell? ⟨gb205, 7, none⟩ = some (.slice A2_7 l2_7.length c2_7) := (blk_cell BK205.out 7).trans rfl; have hfz22_0 := blk_frozen BK205.out 0; have hfz22_1 := blk_frozen BK205.out 1; have hfz22_2 := blk_frozen BK205.out 2; have hfz22_3 := blk_frozen BK205.out 3; have hfz22_4 := blk_frozen BK205.out 4; have hfz22_5 := blk_frozen BK205.out 5; have hfz22_6 := blk_frozen BK205.out 6; have hfz22_7 := blk_frozen BK205.out 7))
      go_meet
      case rel => exact ⟨_, (true), (by first | rfl | (simp; done) | (simp [*]; done)), H', ⟨by first | omega | exact Nat.le_refl _⟩, ⟨by exact kA⟩, ⟨by exact kA⟩, ⟨bA⟩⟩
     ·rw [if_neg c18] at H
      have c18b0 : decide (a2_3 < 0) = false := decide_eq_false c18
      clear c18
      by_cases c23 : a2_3 > a1
      ·rw [if_pos c23] at H
       have c23b0 : decide (a1 < a2_3) = true := decide_eq_true c23
       clear c23
       have H' := Aside0.mk H
       clear H
       have hnb24 := NB204_205.out
       have hnc24 := NB205_204.out
       have hcz25_0 : w7.cell? ⟨gb204, 0, none⟩ = some (.int .i64 a0_0) := (blk_cell BK204.out 0).trans rfl
       have hcz25_1 : w7.cell? ⟨gb204, 1, none⟩ = some (.int .i64 a0_1) := (blk_cell BK204.out 1).trans rfl
       have hcz25_2 : w7.cell? ⟨gb204, 2, none⟩ = some (.int .i64 a0_2) := (blk_cell BK204.out 2).trans rfl
       have hcz25_3 : w7.cell? ⟨gb204, 3, none⟩ = some (.int .i64 a0_3) := (blk_cell BK204.out 3).trans rfl
       have hcz25_4 : w7.cell? ⟨gb204, 4, none⟩ = some (.int .i64 a0_4) := (blk_cell BK204.out 4).trans rfl
       have hcz25_5 : w7.cell? ⟨gb204, 5, none⟩ = some (.int .i64 a0_5) := (blk_cell BK204.out 5).trans rfl
       have hcz25_6 : w7.cell? ⟨gb204, 6, none⟩ = some (.int .i64 a0_6) := (blk_cell BK204.out 6).trans rfl
       have hcz25_7 : w7.cell? ⟨gb204, 7, none⟩ = some (.int .i64 a0_7) := (blk_cell BK204.out 7).trans rfl
       have hfz25_0 := blk_frozen BK204.out 0
       have hfz25_1 := blk_frozen BK204.out 1
       have hfz25_2 := blk_frozen BK204.out 2
       have hfz25_3 := blk_frozen BK204.out 3
       have hfz25_4 := blk_frozen BK204.out 4
       have hfz25_5 := blk_frozen BK204.out 5
       have hfz25_6 := blk_frozen BK204.out 6
       have hfz25_7 := blk_frozen BK204.out 7
       go_wp2_with (first | ((with_reducible refine gate_callee (f := 21) rfl ?_); refine goesL_ (some 11) rfl rfl Try.func21 (by kernel_rfl) rfl #[.agg #[.int .i64 a0_0, .int .i64 a0_1, .int .i64 a0_2, .int .i64 a0_3, .int .i64 a0_4, .int .i64 a0_5, .int .i64 a0_6, .int .i64 a0_7]] rfl aA ?_; (with_reducible refine (config_Check.calls k a0_0 a0_1 a0_2 a0_3 a0_4 a0_5 a0_6 a0_7 t206 _ A8.out).mono ?_); rintro e w26 ⟨rfl, hb⟩; refine ⟨_, rfl, ?_⟩; have n0_ := Aside0.mk (blk_below (g := gb204) kA hb); have n1_ := Aside0.mk (blk_below (g := gb205) kA hb); have n2_ := Aside0.mk (below_step bA hb); clear BK204 BK205 HB; have BK204 := n0_; have BK205 := n1_; have HB := n2_; clear n0_ n1_ n2_; (try clear hb); have hcz27_0 : w26.cell? ⟨gb205, 0, none⟩ = some (.int .i64 a2_0) := (blk_cell BK205.out 0).trans rfl; have hcz27_1 : w26.cell? ⟨gb205, 1, none⟩ = some (.int .i64 a2_1) := (blk_cell BK205.out 1).trans rfl; have hcz27_2 : w26.cell? ⟨gb205, 2, none⟩ = some (.int .i64 a2_2) := (blk_cell BK205.out 2).trans rfl; have hcz27_3 : w26.cell? ⟨gb205, 3, none⟩ = some (.int .i64 a2_3) := (blk_cell BK205.out 3).trans rfl; have hcz27_4 : w26.cell? ⟨gb205, 4, none⟩ = some (.int .i64 a2_4) := (blk_cell BK205.out 4).trans rfl; have hcz27_5 : w26.cell? ⟨gb205, 5, none⟩ = some (.int .i64 a2_5) := (blk_cell BK205.out 5).trans rfl; have hcz27_6 : w26.cell? ⟨gb205, 6, none⟩ = some (.int .i64 a2_6) := (blk_cell BK205.out 6).trans rfl; have hcz27_7 : w26.cell? ⟨gb205, 7, none⟩ = some (.slice A2_7 l2_7.length c2_7) := (blk_cell BK205.out 7).trans rfl; have hfz27_0 := blk_frozen BK205.out 0; have hfz27_1 := blk_frozen BK205.out 1; have hfz27_2 := blk_frozen BK205.out 2; have hfz27_3 := blk_frozen BK205.out 3; have hfz27_4 := blk_frozen BK205.out 4; have hfz27_5 := blk_frozen BK205.out 5; have hfz27_6 := blk_frozen BK205.out 6; have hfz27_7 := blk_frozen BK205.out 7))
       go_meet
       case rel => exact ⟨_, (true), (by first | rfl | (simp; done) | (simp [*]; done)), H', ⟨by first | omega | exact Nat.le_refl _⟩, ⟨by exact kA⟩, ⟨by exact kA⟩, ⟨bA⟩⟩
      ·rw [if_neg c23] at H
       have c23b0 : decide (a1 < a2_3) = false := decide_eq_false c23
       clear c23
       by_cases c28 : a2_1 < 1
       ·rw [if_pos c28] at H
        have c28b0 : decide (a2_1 < 1) = true := decide_eq_true c28
        clear c28
        have H' := Aside0.mk H
        clear H
        have hnb29 := NB204_205.out
        have hnc29 := NB205_204.out
        have hcz30_0 : w7.cell? ⟨gb204, 0, none⟩ = some (.int .i64 a0_0) := (blk_cell BK204.out 0).trans rfl
        have hcz30_1 : w7.cell? ⟨gb204, 1, none⟩ = some (.int .i64 a0_1) := (blk_cell BK204.out 1).trans rfl
        have hcz30_2 : w7.cell? ⟨gb204, 2, none⟩ = some (.int .i64 a0_2) := (blk_cell BK204.out 2).trans rfl
        have hcz30_3 : w7.cell? ⟨gb204, 3, none⟩ = some (.int .i64 a0_3) := (blk_cell BK204.out 3).trans rfl
        have hcz30_4 : w7.cell? ⟨gb204, 4, none⟩ = some (.int .i64 a0_4) := (blk_cell BK204.out 4).trans rfl
        have hcz30_5 : w7.cell? ⟨gb204, 5, none⟩ = some (.int .i64 a0_5) := (blk_cell BK204.out 5).trans rfl
        have hcz30_6 : w7.cell? ⟨gb204, 6, none⟩ = some (.int .i64 a0_6) := (blk_cell BK204.out 6).trans rfl
        have hcz30_7 : w7.cell? ⟨gb204, 7, none⟩ = some (.int .i64 a0_7) := (blk_cell BK204.out 7).trans rfl
        have hfz30_0 := blk_frozen BK204.out 0
        have hfz30_1 := blk_frozen BK204.out 1
        have hfz30_2 := blk_frozen BK204.out 2
        have hfz30_3 := blk_frozen BK204.out 3
        have hfz30_4 := blk_frozen BK204.out 4
        have hfz30_5 := blk_frozen BK204.out 5
        have hfz30_6 := blk_frozen BK204.out 6
        have hfz30_7 := blk_frozen BK204.out 7
        go_wp2_with (first | ((with_reducible refine gate_callee (f := 21) rfl ?_); refine goesL_ (some 11) rfl rfl Try.func21 (by kernel_rfl) rfl #[.agg #[.int .i64 a0_0, .int .i64 a0_1, .int .i64 a0_2, .int .i64 a0_3, .int .i64 a0_4, .int .i64 a0_5, .int .i64 a0_6, .int .i64 a0_7]] rfl aA ?_; (with_reducible refine (config_Check.calls k a0_0 a0_1 a0_2 a0_3 a0_4 a0_5 a0_6 a0_7 t206 _ A8.out).mono ?_); rintro e w31 ⟨rfl, hb⟩; refine ⟨_, rfl, ?_⟩; have n0_ := Aside0.mk (blk_below (g := gb204) kA hb); have n1_ := Aside0.mk (blk_below (g := gb205) kA hb); have n2_ := Aside0.mk (below_step bA hb); clear BK204 BK205 HB; have BK204 := n0_; have BK205 := n1_; have HB := n2_; clear n0_ n1_ n2_; (try clear hb); have hcz32_0 : w31.cell? ⟨gb205, 0, none⟩ = some (.int .i64 a2_0) := (blk_cell BK205.out 0).trans rfl; have hcz32_1 : w31.cell? ⟨gb205, 1, none⟩ = some (.int .i64 a2_1) := (blk_cell BK205.out 1).trans rfl; have hcz32_2 : w31.cell? ⟨gb205, 2, none⟩ = some (.int .i64 a2_2) := (blk_cell BK205.out 2).trans rfl; have hcz32_3 : w31.cell? ⟨gb205, 3, none⟩ = some (.int .i64 a2_3) := (blk_cell BK205.out 3).trans rfl; have hcz32_4 : w31.cell? ⟨gb205, 4, none⟩ = some (.int .i64 a2_4) := (blk_cell BK205.out 4).trans rfl; have hcz32_5 : w31.cell? ⟨gb205, 5, none⟩ = some (.int .i64 a2_5) := (blk_cell BK205.out 5).trans rfl; have hcz32_6 : w31.cell? ⟨gb205, 6, none⟩ = some (.int .i64 a2_6) := (blk_cell BK205.out 6).trans rfl; have hcz32_7 : w31.cell? ⟨gb205, 7, none⟩ = some (.slice A2_7 l2_7.length c2_7) := (blk_cell BK205.out 7).trans rfl; have hfz32_0 := blk_frozen BK205.out 0; have hfz32_1 := blk_frozen BK205.out 1; have hfz32_2 := blk_frozen BK205.out 2; have hfz32_3 := blk_frozen BK205.out 3; have hfz32_4 := blk_frozen BK205.out 4; have hfz32_5 := blk_frozen BK205.out 5; have hfz32_6 := blk_frozen BK205.out 6; have hfz32_7 := blk_frozen BK205.out 7))
        go_meet
        case rel => exact ⟨_, (true), (by first | rfl | (simp; done) | (simp [*]; done)), H', ⟨by first | omega | exact Nat.le_refl _⟩, ⟨by exact kA⟩, ⟨by exact kA⟩, ⟨bA⟩⟩
       ·rw [if_neg c28] at H
        have c28b0 : decide (a2_1 < 1) = false := decide_eq_false c28
        clear c28
        by_cases c33 : a2_1 > a0_0
        ·rw [if_pos c33] at H
         have c33b0 : decide (a0_0 < a2_1) = true := decide_eq_true c33
         clear c33
         have H' := Aside0.mk H
         clear H
         have hnb34 := NB204_205.out
         have hnc34 := NB205_204.out
         have hcz35_0 : w7.cell? ⟨gb204, 0, none⟩ = some (.int .i64 a0_0) := (blk_cell BK204.out 0).trans rfl
         have hcz35_1 : w7.cell? ⟨gb204, 1, none⟩ = some (.int .i64 a0_1) := (blk_cell BK204.out 1).trans rfl
         have hcz35_2 : w7.cell? ⟨gb204, 2, none⟩ = some (.int .i64 a0_2) := (blk_cell BK204.out 2).trans rfl
         have hcz35_3 : w7.cell? ⟨gb204, 3, none⟩ = some (.int .i64 a0_3) := (blk_cell BK204.out 3).trans rfl
         have hcz35_4 : w7.cell? ⟨gb204, 4, none⟩ = some (.int .i64 a0_4) := (blk_cell BK204.out 4).trans rfl
         have hcz35_5 : w7.cell? ⟨gb204, 5, none⟩ = some (.int .i64 a0_5) := (blk_cell BK204.out 5).trans rfl
         have hcz35_6 : w7.cell? ⟨gb204, 6, none⟩ = some (.int .i64 a0_6) := (blk_cell BK204.out 6).trans rfl
         have hcz35_7 : w7.cell? ⟨gb204, 7, none⟩ = some (.int .i64 a0_7) := (blk_cell BK204.out 7).trans rfl
         have hfz35_0 := blk_frozen BK204.out 0
         have hfz35_1 := blk_frozen BK204.out 1
         have hfz35_2 := blk_frozen BK204.out 2
         have hfz35_3 := blk_frozen BK204.out 3
         have hfz35_4 := blk_frozen BK204.out 4
         have hfz35_5 := blk_frozen BK204.out 5
         have hfz35_6 := blk_frozen BK204.out 6
         have hfz35_7 := blk_frozen BK204.out 7
         go_wp2_with (first | ((with_reducible refine gate_callee (f := 21) rfl ?_); refine goesL_ (some 11) rfl rfl Try.func21 (by kernel_rfl) rfl #[.agg #[.int .i64 a0_0, .int .i64 a0_1, .int .i64 a0_2, .int .i64 a0_3, .int .i64 a0_4, .int .i64 a0_5, .int .i64 a0_6, .int .i64 a0_7]] rfl aA ?_; (with_reducible refine (config_Check.calls k a0_0 a0_1 a0_2 a0_3 a0_4 a0_5 a0_6 a0_7 t206 _ A8.out).mono ?_); rintro e w36 ⟨rfl, hb⟩; refine ⟨_, rfl, ?_⟩; have n0_ := Aside0.mk (blk_below (g := gb204) kA hb); have n1_ := Aside0.mk (blk_below (g := gb205) kA hb); have n2_ := Aside0.mk (below_step bA hb); clear BK204 BK205 HB; have BK204 := n0_; have BK205 := n1_; have HB := n2_; clear n0_ n1_ n2_; (try clear hb); have hcz37_0 : w36.cell? ⟨gb205, 0, none⟩ = some (.int .i64 a2_0) := (blk_cell BK205.out 0).trans rfl; have hcz37_1 : w36.cell? ⟨gb205, 1, none⟩ = some (.int .i64 a2_1) := (blk_cell BK205.out 1).trans rfl; have hcz37_2 : w36.cell? ⟨gb205, 2, none⟩ = some (.int .i64 a2_2) := (blk_cell BK205.out 2).trans rfl; have hcz37_3 : w36.cell? ⟨gb205, 3, none⟩ = some (.int .i64 a2_3) := (blk_cell BK205.out 3).trans rfl; have hcz37_4 : w36.cell? ⟨gb205, 4, none⟩ = some (.int .i64 a2_4) := (blk_cell BK205.out 4).trans rfl; have hcz37_5 : w36.cell? ⟨gb205, 5, none⟩ = some (.int .i64 a2_5) := (blk_cell BK205.out 5).trans rfl; have hcz37_6 : w36.cell? ⟨gb205, 6, none⟩ = some (.int .i64 a2_6) := (blk_cell BK205.out 6).trans rfl; have hcz37_7 : w36.cell? ⟨gb205, 7, none⟩ = some (.slice A2_7 l2_7.length c2_7) := (blk_cell BK205.out 7).trans rfl; have hfz37_0 := blk_frozen BK205.out 0; have hfz37_1 := blk_frozen BK205.out 1; have hfz37_2 := blk_frozen BK205.out 2; have hfz37_3 := blk_frozen BK205.out 3; have hfz37_4 := blk_frozen BK205.out 4; have hfz37_5 := blk_frozen BK205.out 5; have hfz37_6 := blk_frozen BK205.out 6; have hfz37_7 := blk_frozen BK205.out 7; have hcz38_0 : w36.cell? ⟨gb204, 0, none⟩ = some (.int .i64 a0_0) := (blk_cell BK204.out 0).trans rfl; have hcz38_1 : w36.cell? ⟨gb204, 1, none⟩ = some (.int .i64 a0_1) := (blk_cell BK204.out 1).trans rfl; have hcz38_2 : w36.cell? ⟨gb204, 2, none⟩ = some (.int .i64 a0_2) := (blk_cell BK204.out 2).trans rfl; have hcz38_3 : w36.cell? ⟨gb204, 3, none⟩ = some (.int .i64 a0_3) := (blk_cell BK204.out 3).trans rfl; have hcz38_4 : w36.cell? ⟨gb204, 4, none⟩ = some (.int .i64 a0_4) := (blk_cell BK204.out 4).trans rfl; have hcz38_5 : w36.cell? ⟨gb204, 5, none⟩ = some (.int .i64 a0_5) := (blk_cell BK204.out 5).trans rfl; have hcz38_6 : w36.cell? ⟨gb204, 6, none⟩ = some (.int .i64 a0_6) := (blk_cell BK204.out 6).trans rfl; have hcz38_7 : w36.cell? ⟨gb204, 7, none⟩ = some (.int .i64 a0_7) := (blk_cell BK204.out 7).trans rfl; have hfz38_0 := blk_frozen BK204.out 0; have hfz38_1 := blk_frozen BK204.out 1; have hfz38_2 := blk_frozen BK204.out 2; have hfz38_3 := blk_frozen BK204.out 3; have hfz38_4 := blk_frozen BK204.out 4; have hfz38_5 := blk_frozen BK204.out 5; have hfz38_6 := blk_frozen BK204.out 6; have hfz38_7 := blk_frozen BK204.out 7))
         go_meet
         case rel => exact ⟨_, (true), (by first | rfl | (simp; done) | (simp [*]; done)), H', ⟨by first | omega | exact Nat.le_refl _⟩, ⟨by exact kA⟩, ⟨by exact kA⟩, ⟨bA⟩⟩
        ·rw [if_neg c33] at H
         have c33b0 : decide (a0_0 < a2_1) = false := decide_eq_false c33
         clear c33
         have H' := Aside0.mk H
         clear H
         have hnb39 := NB204_205.out
         have hnc39 := NB205_204.out
         have hcz40_0 : w7.cell? ⟨gb204, 0, none⟩ = some (.int .i64 a0_0) := (blk_cell BK204.out 0).trans rfl
         have hcz40_1 : w7.cell? ⟨gb204, 1, none⟩ = some (.int .i64 a0_1) := (blk_cell BK204.out 1).trans rfl
         have hcz40_2 : w7.cell? ⟨gb204, 2, none⟩ = some (.int .i64 a0_2) := (blk_cell BK204.out 2).trans rfl
         have hcz40_3 : w7.cell? ⟨gb204, 3, none⟩ = some (.int .i64 a0_3) := (blk_cell BK204.out 3).trans rfl
         have hcz40_4 : w7.cell? ⟨gb204, 4, none⟩ = some (.int .i64 a0_4) := (blk_cell BK204.out 4).trans rfl
         have hcz40_5 : w7.cell? ⟨gb204, 5, none⟩ = some (.int .i64 a0_5) := (blk_cell BK204.out 5).trans rfl
         have hcz40_6 : w7.cell? ⟨gb204, 6, none⟩ = some (.int .i64 a0_6) := (blk_cell BK204.out 6).trans rfl
         have hcz40_7 : w7.cell? ⟨gb204, 7, none⟩ = some (.int .i64 a0_7) := (blk_cell BK204.out 7).trans rfl
         have hfz40_0 := blk_frozen BK204.out 0
         have hfz40_1 := blk_frozen BK204.out 1
         have hfz40_2 := blk_frozen BK204.out 2
         have hfz40_3 := blk_frozen BK204.out 3
         have hfz40_4 := blk_frozen BK204.out 4
         have hfz40_5 := blk_frozen BK204.out 5
         have hfz40_6 := blk_frozen BK204.out 6
         have hfz40_7 := blk_frozen BK204.out 7
         go_wp2_with (first | ((with_reducible refine gate_callee (f := 21) rfl ?_); refine goesL_ (some 11) rfl rfl Try.func21 (by kernel_rfl) rfl #[.agg #[.int .i64 a0_0, .int .i64 a0_1, .int .i64 a0_2, .int .i64 a0_3, .int .i64 a0_4, .int .i64 a0_5, .int .i64 a0_6, .int .i64 a0_7]] rfl aA ?_; (with_reducible refine (config_Check.calls k a0_0 a0_1 a0_2 a0_3 a0_4 a0_5 a0_6 a0_7 t206 _ A8.out).mono ?_); rintro e w41 ⟨rfl, hb⟩; refine ⟨_, rfl, ?_⟩; have n0_ := Aside0.mk (blk_below (g := gb204) kA hb); have n1_ := Aside0.mk (blk_below (g := gb205) kA hb); have n2_ := Aside0.mk (below_step bA hb); clear BK204 BK205 HB; have BK204 := n0_; have BK205 := n1_; have HB := n2_; clear n0_ n1_ n2_; (try clear hb); have hcz42_0 : w41.cell? ⟨gb205, 0, none⟩ = some (.int .i64 a2_0) := (blk_cell BK205.out 0).trans rfl; have hcz42_1 : w41.cell? ⟨gb205, 1, none⟩ = some (.int .i64 a2_1) := (blk_cell BK205.out 1).trans rfl; have hcz42_2 : w41.cell? ⟨gb205, 2, none⟩ = some (.int .i64 a2_2) := (blk_cell BK205.out 2).trans rfl; have hcz42_3 : w41.cell? ⟨gb205, 3, none⟩ = some (.int .i64 a2_3) := (blk_cell BK205.out 3).trans rfl; have hcz42_4 : w41.cell? ⟨gb205, 4, none⟩ = some (.int .i64 a2_4) := (blk_cell BK205.out 4).trans rfl; have hcz42_5 : w41.cell? ⟨gb205, 5, none⟩ = some (.int .i64 a2_5) := (blk_cell BK205.out 5).trans rfl; have hcz42_6 : w41.cell? ⟨gb205, 6, none⟩ = some (.int .i64 a2_6) := (blk_cell BK205.out 6).trans rfl; have hcz42_7 : w41.cell? ⟨gb205, 7, none⟩ = some (.slice A2_7 l2_7.length c2_7) := (blk_cell BK205.out 7).trans rfl; have hfz42_0 := blk_frozen BK205.out 0; have hfz42_1 := blk_frozen BK205.out 1; have hfz42_2 := blk_frozen BK205.out 2; have hfz42_3 := blk_frozen BK205.out 3; have hfz42_4 := blk_frozen BK205.out 4; have hfz42_5 := blk_frozen BK205.out 5; have hfz42_6 := blk_frozen BK205.out 6; have hfz42_7 := blk_frozen BK205.out 7; have hcz43_0 : w41.cell? ⟨gb204, 0, none⟩ = some (.int .i64 a0_0) := (blk_cell BK204.out 0).trans rfl; have hcz43_1 : w41.cell? ⟨gb204, 1, none⟩ = some (.int .i64 a0_1) := (blk_cell BK204.out 1).trans rfl; have hcz43_2 : w41.cell? ⟨gb204, 2, none⟩ = some (.int .i64 a0_2) := (blk_cell BK204.out 2).trans rfl; have hcz43_3 : w41.cell? ⟨gb204, 3, none⟩ = some (.int .i64 a0_3) := (blk_cell BK204.out 3).trans rfl; have hcz43_4 : w41.cell? ⟨gb204, 4, none⟩ = some (.int .i64 a0_4) := (blk_cell BK204.out 4).trans rfl; have hcz43_5 : w41.cell? ⟨gb204, 5, none⟩ = some (.int .i64 a0_5) := (blk_cell BK204.out 5).trans rfl; have hcz43_6 : w41.cell? ⟨gb204, 6, none⟩ = some (.int .i64 a0_6) := (blk_cell BK204.out 6).trans rfl; have hcz43_7 : w41.cell? ⟨gb204, 7, none⟩ = some (.int .i64 a0_7) := (blk_cell BK204.out 7).trans rfl; have hfz43_0 := blk_frozen BK204.out 0; have hfz43_1 := blk_frozen BK204.out 1; have hfz43_2 := blk_frozen BK204.out 2; have hfz43_3 := blk_frozen BK204.out 3; have hfz43_4 := blk_frozen BK204.out 4; have hfz43_5 := blk_frozen BK204.out 5; have hfz43_6 := blk_frozen BK204.out 6; have hfz43_7 := blk_frozen BK204.out 7))
         go_meet
         case rel => exact ⟨_, (decide (a3 > 9223372036854775808)), (by first | rfl | (simp; done) | (simp [*]; done)), H', ⟨by first | omega | exact Nat.le_refl _⟩, ⟨by exact kA⟩, ⟨by exact kA⟩, ⟨bA⟩⟩
  ·rw [if_neg c9] at H
   have c9b0 : (t206 == 0) = false := beq_eq_false_iff_ne.mpr c9
   have c9b1 : (t206 != 0) = true := bne_iff_ne.mpr c9
   (first | rw [c9b0] | (simp only [i64_w, i32_w]; rw [c9b0]) | skip)
   have H' := Aside0.mk H
   clear H
   have hnb44 := NB204_205.out
   have hnc44 := NB205_204.out
   have hcz45_0 : w7.cell? ⟨gb204, 0, none⟩ = some (.int .i64 a0_0) := (blk_cell BK204.out 0).trans rfl
   have hcz45_1 : w7.cell? ⟨gb204, 1, none⟩ = some (.int .i64 a0_1) := (blk_cell BK204.out 1).trans rfl
   have hcz45_2 : w7.cell? ⟨gb204, 2, none⟩ = some (.int .i64 a0_2) := (blk_cell BK204.out 2).trans rfl
   have hcz45_3 : w7.cell? ⟨gb204, 3, none⟩ = some (.int .i64 a0_3) := (blk_cell BK204.out 3).trans rfl
   have hcz45_4 : w7.cell? ⟨gb204, 4, none⟩ = some (.int .i64 a0_4) := (blk_cell BK204.out 4).trans rfl
   have hcz45_5 : w7.cell? ⟨gb204, 5, none⟩ = some (.int .i64 a0_5) := (blk_cell BK204.out 5).trans rfl
   have hcz45_6 : w7.cell? ⟨gb204, 6, none⟩ = some (.int .i64 a0_6) := (blk_cell BK204.out 6).trans rfl
   have hcz45_7 : w7.cell? ⟨gb204, 7, none⟩ = some (.int .i64 a0_7) := (blk_cell BK204.out 7).trans rfl
   have hfz45_0 := blk_frozen BK204.out 0
   have hfz45_1 := blk_frozen BK204.out 1
   have hfz45_2 := blk_frozen BK204.out 2
   have hfz45_3 := blk_frozen BK204.out 3
   have hfz45_4 := blk_frozen BK204.out 4
   have hfz45_5 := blk_frozen BK204.out 5
   have hfz45_6 := blk_frozen BK204.out 6
   have hfz45_7 := blk_frozen BK204.out 7
   go_wp2_with (first | ((with_reducible refine gate_callee (f := 21) rfl ?_); refine goesL_ (some 11) rfl rfl Try.func21 (by kernel_rfl) rfl #[.agg #[.int .i64 a0_0, .int .i64 a0_1, .int .i64 a0_2, .int .i64 a0_3, .int .i64 a0_4, .int .i64 a0_5, .int .i64 a0_6, .int .i64 a0_7]] rfl aA ?_; (with_reducible refine (config_Check.calls k a0_0 a0_1 a0_2 a0_3 a0_4 a0_5 a0_6 a0_7 t206 _ A8.out).mono ?_); rintro e w46 ⟨rfl, hb⟩; refine ⟨_, rfl, ?_⟩; have n0_ := Aside0.mk (blk_below (g := gb204) kA hb); have n1_ := Aside0.mk (blk_below (g := gb205) kA hb); have n2_ := Aside0.mk (below_step bA hb); clear BK204 BK205 HB; have BK204 := n0_; have BK205 := n1_; have HB := n2_; clear n0_ n1_ n2_; (try clear hb)))
   go_meet
   case rel => exact ⟨_, (true), (by first | rfl | (simp; done) | (simp [*]; done)), H', ⟨by first | omega | exact Nat.le_refl _⟩, ⟨by exact kA⟩, ⟨by exact kA⟩, ⟨bA⟩⟩
 case rest =>
  clear HC5
  try clear c1
  try clear c2
  try clear p2
  try clear c3
  try clear c4
  try clear c9
  try clear c9b0
  try clear c9b1
  try clear c10
  try clear c10b0
  try clear c11
  try clear c12
  try clear c14
  try clear c14b0
  try clear c15
  try clear c18
  try clear c18b0
  try clear c19
  try clear c21
  try clear c23
  try clear c23b0
  try clear c24
  try clear c28
  try clear c28b0
  try clear c29
  try clear c33
  try clear c33b0
  try clear c34
  try clear c39
  try clear c44
  try clear hcz12_0
  try clear hcz12_1
  try clear hcz12_2
  try clear hcz12_3
  try clear hcz12_4
  try clear hcz12_5
  try clear hcz12_6
  try clear hcz12_7
  try clear hcz16_0
  try clear hcz16_1
  try clear hcz16_2
  try clear hcz16_3
  try clear hcz16_4
  try clear hcz16_5
  try clear hcz16_6
  try clear hcz16_7
  try clear hcz20_0
  try clear hcz20_1
  try clear hcz20_2
  try clear hcz20_3
  try clear hcz20_4
  try clear hcz20_5
  try clear hcz20_6
  try clear hcz20_7
  try clear hcz22_0
  try clear hcz22_1
  try clear hcz22_2
  try clear hcz22_3
  try clear hcz22_4
  try clear hcz22_5
  try clear hcz22_6
  try clear hcz22_7
  try clear hcz25_0
  try clear hcz25_1
  try clear hcz25_2
  try clear hcz25_3
  try clear hcz25_4
  try clear hcz25_5
  try clear hcz25_6
  try clear hcz25_7
  try clear hcz27_0
  try clear hcz27_1
  try clear hcz27_2
  try clear hcz27_3
  try clear hcz27_4
  try clear hcz27_5
  try clear hcz27_6
  try clear hcz27_7
  try clear hcz30_0
  try clear hcz30_1
  try clear hcz30_2
  try clear hcz30_3
  try clear hcz30_4
  try clear hcz30_5
  try clear hcz30_6
  try clear hcz30_7
  try clear hcz32_0
  try clear hcz32_1
  try clear hcz32_2
  try clear hcz32_3
  try clear hcz32_4
  try clear hcz32_5
  try clear hcz32_6
  try clear hcz32_7
  try clear hcz35_0
  try clear hcz35_1
  try clear hcz35_2
  try clear hcz35_3
  try clear hcz35_4
  try clear hcz35_5
  try clear hcz35_6
  try clear hcz35_7
  try clear hcz37_0
  try clear hcz37_1
  try clear hcz37_2
  try clear hcz37_3
  try clear hcz37_4
  try clear hcz37_5
  try clear hcz37_6
  try clear hcz37_7
  try clear hcz38_0
  try clear hcz38_1
  try clear hcz38_2
  try clear hcz38_3
  try clear hcz38_4
  try clear hcz38_5
  try clear hcz38_6
  try clear hcz38_7
  try clear hcz40_0
  try clear hcz40_1
  try clear hcz40_2
  try clear hcz40_3
  try clear hcz40_4
  try clear hcz40_5
  try clear hcz40_6
  try clear hcz40_7
  try clear hcz42_0
  try clear hcz42_1
  try clear hcz42_2
  try clear hcz42_3
  try clear hcz42_4
  try clear hcz42_5
  try clear hcz42_6
  try clear hcz42_7
  try clear hcz43_0
  try clear hcz43_1
  try clear hcz43_2
  try clear hcz43_3
  try clear hcz43_4
  try clear hcz43_5
  try clear hcz43_6
  try clear hcz43_7
  try clear hcz45_0
  try clear hcz45_1
  try clear hcz45_2
  try clear hcz45_3
  try clear hcz45_4
  try clear hcz45_5
  try clear hcz45_6
  try clear hcz45_7
  try clear hfz12_0
  try clear hfz12_1
  try clear hfz12_2
  try clear hfz12_3
  try clear hfz12_4
  try clear hfz12_5
  try clear hfz12_6
  try clear hfz12_7
  try clear hfz16_0
  try clear hfz16_1
  try clear hfz16_2
  try clear hfz16_3
  try clear hfz16_4
  try clear hfz16_5
  try clear hfz16_6
  try clear hfz16_7
  try clear hfz20_0
  try clear hfz20_1
  try clear hfz20_2
  try clear hfz20_3
  try clear hfz20_4
  try clear hfz20_5
  try clear hfz20_6
  try clear hfz20_7
  try clear hfz22_0
  try clear hfz22_1
  try clear hfz22_2
  try clear hfz22_3
  try clear hfz22_4
  try clear hfz22_5
  try clear hfz22_6
  try clear hfz22_7
  try clear hfz25_0
  try clear hfz25_1
  try clear hfz25_2
  try clear hfz25_3
  try clear hfz25_4
  try clear hfz25_5
  try clear hfz25_6
  try clear hfz25_7
  try clear hfz27_0
  try clear hfz27_1
  try clear hfz27_2
  try clear hfz27_3
  try clear hfz27_4
  try clear hfz27_5
  try clear hfz27_6
  try clear hfz27_7
  try clear hfz30_0
  try clear hfz30_1
  try clear hfz30_2
  try clear hfz30_3
  try clear hfz30_4
  try clear hfz30_5
  try clear hfz30_6
  try clear hfz30_7
  try clear hfz32_0
  try clear hfz32_1
  try clear hfz32_2
  try clear hfz32_3
  try clear hfz32_4
  try clear hfz32_5
  try clear hfz32_6
  try clear hfz32_7
  try clear hfz35_0
  try clear hfz35_1
  try clear hfz35_2
  try clear hfz35_3
  try clear hfz35_4
  try clear hfz35_5
  try clear hfz35_6
  try clear hfz35_7
  try clear hfz37_0
  try clear hfz37_1
  try clear hfz37_2
  try clear hfz37_3
  try clear hfz37_4
  try clear hfz37_5
  try clear hfz37_6
  try clear hfz37_7
  try clear hfz38_0
  try clear hfz38_1
  try clear hfz38_2
  try clear hfz38_3
  try clear hfz38_4
  try clear hfz38_5
  try clear hfz38_6
  try clear hfz38_7
  try clear hfz40_0
  try clear hfz40_1
  try clear hfz40_2
  try clear hfz40_3
  try clear hfz40_4
  try clear hfz40_5
  try clear hfz40_6
  try clear hfz40_7
  try clear hfz42_0
  try clear hfz42_1
  try clear hfz42_2
  try clear hfz42_3
  try clear hfz42_4
  try clear hfz42_5
  try clear hfz42_6
  try clear hfz42_7
  try clear hfz43_0
  try clear hfz43_1
  try clear hfz43_2
  try clear hfz43_3
  try clear hfz43_4
  try clear hfz43_5
  try clear hfz43_6
  try clear hfz43_7
  try clear hfz45_0
  try clear hfz45_1
  try clear hfz45_2
  try clear hfz45_3
  try clear hfz45_4
  try clear hfz45_5
  try clear hfz45_6
  try clear hfz45_7
  obtain ⟨kq, x47_4, rfl, HA, HJ4, BK204, BK205, HB⟩ := hcut
  cases kq with
  | zero => exact absurd HA.out (by simp [prio_Priority.j0])
  | succ kj4 =>
   have H := HA.out
   clear HA
   simp only [prio_Priority.j0] at H
   by_cases c47 : x47_4 = true
   ·subst c47
    have H1 : (some 0) = some r := by rw [if_pos rfl] at H; exact H
    clear H
    have H := H1
    clear H1
    obtain rfl := Option.some.inj H
    go_wp2
    go_ret
    exact ⟨by first | rfl | (simp [errW_none, errW_some] <;> rfl) | (simp [*, errW_none, errW_some] <;> rfl), bA⟩
   ·replace c47 := Bool.eq_false_iff.mpr c47
    subst c47
    have H1 : ((wide_Mul.f (IntKind.u64.wrap (a0_4)) a3).bind fun bt207 => ((wide_Shr.f bt207.1 bt207.2 63).bind fun bt209 => (some (wrap64 ((wrap64 ((wrap64 (a0_3 * (wrap64 (a1 - a2_3)))) + (wrap64 (bt209.2)))) + (wrap64 (a0_5 * a2_1))))))) = some r := by rw [if_neg (show ¬ (false = true) by decide)] at H; exact H
    clear H
    have H := H1
    clear H1; replace H := Option.bind_eq_some_iff.mp H; obtain ⟨⟨t207, t208⟩, A480, H⟩ := H; replace H : ((wide_Shr.f t207 t208 63).bind fun bt209 => (some (wrap64 ((wrap64 ((wrap64 (a0_3 * (wrap64 (a1 - a2_3)))) + (wrap64 (bt209.2)))) + (wrap64 (a0_5 * a2_1)))))) = some r := H; have A48 := Aside0.mk A480; clear A480; replace H := Option.bind_eq_some_iff.mp H; obtain ⟨⟨t209, t210⟩, A490, H⟩ := H; replace H : (some (wrap64 ((wrap64 ((wrap64 (a0_3 * (wrap64 (a1 - a2_3)))) + (wrap64 (t210)))) + (wrap64 (a0_5 * a2_1))))) = some r := H; have A49 := Aside0.mk A490; clear A490
    obtain rfl := Option.some.inj H
    have hnb50 := NB204_205.out
    have hnc50 := NB205_204.out
    have hcz51_0 : wc.cell? ⟨gb204, 0, none⟩ = some (.int .i64 a0_0) := (blk_cell BK204.out 0).trans rfl
    have hcz51_1 : wc.cell? ⟨gb204, 1, none⟩ = some (.int .i64 a0_1) := (blk_cell BK204.out 1).trans rfl
    have hcz51_2 : wc.cell? ⟨gb204, 2, none⟩ = some (.int .i64 a0_2) := (blk_cell BK204.out 2).trans rfl
    have hcz51_3 : wc.cell? ⟨gb204, 3, none⟩ = some (.int .i64 a0_3) := (blk_cell BK204.out 3).trans rfl
    have hcz51_4 : wc.cell? ⟨gb204, 4, none⟩ = some (.int .i64 a0_4) := (blk_cell BK204.out 4).trans rfl
    have hcz51_5 : wc.cell? ⟨gb204, 5, none⟩ = some (.int .i64 a0_5) := (blk_cell BK204.out 5).trans rfl
    have hcz51_6 : wc.cell? ⟨gb204, 6, none⟩ = some (.int .i64 a0_6) := (blk_cell BK204.out 6).trans rfl
    have hcz51_7 : wc.cell? ⟨gb204, 7, none⟩ = some (.int .i64 a0_7) := (blk_cell BK204.out 7).trans rfl
    have hfz51_0 := blk_frozen BK204.out 0
    have hfz51_1 := blk_frozen BK204.out 1
    have hfz51_2 := blk_frozen BK204.out 2
    have hfz51_3 := blk_frozen BK204.out 3
    have hfz51_4 := blk_frozen BK204.out 4
    have hfz51_5 := blk_frozen BK204.out 5
    have hfz51_6 := blk_frozen BK204.out 6
    have hfz51_7 := blk_frozen BK204.out 7
    go_wp2_with (first | ((with_reducible refine gate_callee (f := 23) rfl ?_); refine goesL_ (some 52) rfl rfl Try.func23 (by kernel_rfl) rfl #[.int .u64 (IntKind.u64.wrap (a0_4)), .int .u64 a3] rfl aA ?_; (with_reducible refine (wide_Mul.calls (IntKind.u64.wrap (a0_4)) a3 t207 t208 _ A48.out).mono ?_); rintro e w52 ⟨rfl, hb⟩; refine ⟨_, rfl, ?_⟩; have n0_ := Aside0.mk (blk_below (g := gb204) kA hb); have n1_ := Aside0.mk (blk_below (g := gb205) kA hb); have n2_ := Aside0.mk (below_step bA hb); clear BK204 BK205 HB; have BK204 := n0_; have BK205 := n1_; have HB := n2_; clear n0_ n1_ n2_; (try clear hb)) | ((with_reducible refine gate_callee (f := 22) rfl ?_); refine goesL_ (some 53) rfl rfl Try.func22 (by kernel_rfl) rfl #[.agg #[.int .u64 t207, .int .u64 t208], .int .i64 63] rfl aA ?_; (with_reducible refine (wide_Shr.calls t207 t208 63 t209 t210 _ A49.out).mono ?_); rintro e w53 ⟨rfl, hb⟩; refine ⟨_, rfl, ?_⟩; have n0_ := Aside0.mk (blk_below (g := gb204) kA hb); have n1_ := Aside0.mk (blk_below (g := gb205) kA hb); have n2_ := Aside0.mk (below_step bA hb); clear BK204 BK205 HB; have BK204 := n0_; have BK205 := n1_; have HB := n2_; clear n0_ n1_ n2_; (try clear hb)) | ((with_reducible refine gate_dst (N := 9) rfl ?_); refine bxA 9 #[.int .u64 0, .int .u64 0] 51 ?_; intro gb211 hg w54 hbox hb; have n0_ := Aside0.mk (blk_below (g := gb204) kA hb); have n1_ := Aside0.mk (blk_below (g := gb205) kA hb); have n2_ := Aside0.mk (below_step bA hb); have n3_ := Aside0.mk (hbox); have n4_ := Aside0.mk (gwA hg bA); have n5_ := Aside0.mk (gwA hg bA); have n6_ := Aside0.mk (neA (g := gb204) hg kA); have n7_ := Aside0.mk (neB (g := gb204) hg kA); have n8_ := Aside0.mk (neA (g := gb205) hg kA); have n9_ := Aside0.mk (neB (g := gb205) hg kA); clear BK204 BK205 HB; have BK204 := n0_; have BK205 := n1_; have HB := n2_; have BK211 := n3_; have GW211 := n4_; have GE211 := n5_; have NB204_211 := n6_; have NB211_204 := n7_; have NB205_211 := n8_; have NB211_205 := n9_; clear n0_ n1_ n2_ n3_ n4_ n5_ n6_ n7_ n8_ n9_ hb hbox hg; have hnb55 := NB211_204.out; have hnc55 := NB204_211.out; have hnb56 := NB211_205.out; have hnc56 := NB205_211.out; have hcz57_0 : w54.cell? ⟨gb211, 0, none⟩ = some (.int .u64 0) := (blk_cell BK211.out 0).trans rfl; have hcz57_1 : w54.cell? ⟨gb211, 1, none⟩ = some (.int .u64 0) := (blk_cell BK211.out 1).trans rfl; have hfz57_0 := blk_frozen BK211.out 0; have hfz57_1 := blk_frozen BK211.out 1; have hcz58_0 : w54.cell? ⟨gb204, 0, none⟩ = some (.int .i64 a0_0) := (blk_cell BK204.out 0).trans rfl; have hcz58_1 : w54.cell? ⟨gb204, 1, none⟩ = some (.int .i64 a0_1) := (blk_cell BK204.out 1).trans rfl; have hcz58_2 : w54.cell? ⟨gb204, 2, none⟩ = some (.int .i64 a0_2) := (blk_cell BK204.out 2).trans rfl; have hcz58_3 : w54.cell? ⟨gb204, 3, none⟩ = some (.int .i64 a0_3) := (blk_cell BK204.out 3).trans rfl; have hcz58_4 : w54.cell? ⟨gb204, 4, none⟩ = some (.int .i64 a0_4) := (blk_cell BK204.out 4).trans rfl; have hcz58_5 : w54.cell? ⟨gb204, 5, none⟩ = some (.int .i64 a0_5) := (blk_cell BK204.out 5).trans rfl; have hcz58_6 : w54.cell? ⟨gb204, 6, none⟩ = some (.int .i64 a0_6) := (blk_cell BK204.out 6).trans rfl; have hcz58_7 : w54.cell? ⟨gb204, 7, none⟩ = some (.int .i64 a0_7) := (blk_cell BK204.out 7).trans rfl; have hfz58_0 := blk_frozen BK204.out 0; have hfz58_1 := blk_frozen BK204.out 1; have hfz58_2 := blk_frozen BK204.out 2; have hfz58_3 := blk_frozen BK204.out 3; have hfz58_4 := blk_frozen BK204.out 4; have hfz58_5 := blk_frozen BK204.out 5; have hfz58_6 := blk_frozen BK204.out 6; have hfz58_7 := blk_frozen BK204.out 7; have hcz59_0 : w54.cell? ⟨gb205, 0, none⟩ = some (.int .i64 a2_0) := (blk_cell BK205.out 0).trans rfl; have hcz59_1 : w54.cell? ⟨gb205, 1, none⟩ = some (.int .i64 a2_1) := (blk_cell BK205.out 1).trans rfl; have hcz59_2 : w54.cell? ⟨gb205, 2, none⟩ = some (.int .i64 a2_2) := (blk_cell BK205.out 2).trans rfl; have hcz59_3 : w54.cell? ⟨gb205, 3, none⟩ = some (.int .i64 a2_3) := (blk_cell BK205.out 3).trans rfl; have hcz59_4 : w54.cell? ⟨gb205, 4, none⟩ = some (.int .i64 a2_4) := (blk_cell BK205.out 4).trans rfl; have hcz59_5 : w54.cell? ⟨gb205, 5, none⟩ = some (.int .i64 a2_5) := (blk_cell BK205.out 5).trans rfl; have hcz59_6 : w54.cell? ⟨gb205, 6, none⟩ = some (.int .i64 a2_6) := (blk_cell BK205.out 6).trans rfl; have hcz59_7 : w54.cell? ⟨gb205, 7, none⟩ = some (.slice A2_7 l2_7.length c2_7) := (blk_cell BK205.out 7).trans rfl; have hfz59_0 := blk_frozen BK205.out 0; have hfz59_1 := blk_frozen BK205.out 1; have hfz59_2 := blk_frozen BK205.out 2; have hfz59_3 := blk_frozen BK205.out 3; have hfz59_4 := blk_frozen BK205.out 4; have hfz59_5 := blk_frozen BK205.out 5; have hfz59_6 := blk_frozen BK205.out 6; have hfz59_7 := blk_frozen BK205.out 7))
    go_ret
    exact ⟨by first | rfl | (simp [errW_none, errW_some] <;> rfl) | (simp [*, errW_none, errW_some] <;> rfl), bA⟩

-- NOT PRINTED: function 47 (prio_sorter_int_merge)

-- NOT PRINTED: function 32 (prio_sorter_int_sort)

-- NOT PRINTED: function 16 (prio_Sort_int)

/-! ### backfilllaw14_sameInts: function 18 -/
def backfilllaw14_sameInts.l0 : Nat → List Int → List Int → Int → Option (Bool)
 | 0, _, _, _ => none
 | k + 1, x0, x1, x5 => if x5 < (x0.length : Int) then (if 0 ≤ x5 then (if x5 < (x1.length : Int) then (if (rd x0 x5) = (rd x1 x5) then (backfilllaw14_sameInts.l0 k x0 x1 (wrap64 (x5 + 1))) else (some false)) else (none)) else (none)) else (some true)
def backfilllaw14_sameInts.f (k : Nat) (l0 : List Int) (l1 : List Int) : Option (Bool) := if (l0.length : Int) = (l1.length : Int) then (backfilllaw14_sameInts.l0 k l0 l1 0) else (some false)
theorem backfilllaw14_sameInts.mono_l : ∀ k, (∀ y0 y1 y2, LeO (backfilllaw14_sameInts.l0 k y0 y1 y2) (backfilllaw14_sameInts.l0 (k + 1) y0 y1 y2))
 | 0 => fun _ _ _ r h => by simp [backfilllaw14_sameInts.l0] at h
 | k + 1 => by
  have ih0 := backfilllaw14_sameInts.mono_l k
  ·intro y0 y1 y2
   unfold backfilllaw14_sameInts.l0
   repeat' first
   | (with_reducible exact ih0 _ _ _)
   | (with_reducible exact LeO.refl _)
   | (with_reducible exact LeO.none _)
   | (with_reducible refine LeO.ite ?_ ?_)
   | (with_reducible refine LeO.bind ?_ (fun _ => ?_))
   | exact ih0 _ _ _
   | exact LeO.none _
   | refine LeO.ite ?_ ?_
   | refine LeO.bind ?_ (fun _ => ?_)
theorem backfilllaw14_sameInts.mono : ∀ a0 a1 k, LeO (backfilllaw14_sameInts.f k a0 a1) (backfilllaw14_sameInts.f (k + 1) a0 a1) := by
 intro a0 a1 k
 have ih0 := backfilllaw14_sameInts.mono_l k
 unfold backfilllaw14_sameInts.f
 repeat' first
   | (with_reducible exact ih0 _ _ _)
   | (with_reducible exact LeO.refl _)
   | (with_reducible exact LeO.none _)
   | (with_reducible refine LeO.ite ?_ ?_)
   | (with_reducible refine LeO.bind ?_ (fun _ => ?_))
   | exact ih0 _ _ _
   | exact LeO.none _
   | refine LeO.ite ?_ ?_
   | refine LeO.bind ?_ (fun _ => ?_)
set_option maxHeartbeats 8000000 in
set_option maxRecDepth 100000 in
theorem backfilllaw14_sameInts.calls (k : Nat) (A0 : Option Addr) (c0 : Nat) (l0 : List Int) (A1 : Option Addr) (c1 : Nat) (l1 : List Int) (r : Bool) (w : World) (hr0 : Kd.C (Kd.int .i64) w A0 l0.length l0) (hc0 : l0.length ≤ c0) (hr1 : Kd.C (Kd.int .i64) w A1 l1.length l1) (hc1 : l1.length ≤ c1) (h : backfilllaw14_sameInts.f k l0 l1 = some r) :
  Calls Try.prog 18 #[.slice A0 l0.length c0, .slice A1 l1.length c1] w fun e w' => e = .returned (.bool r) ∧ Drawn0 w w' := by
 have HR0 := Aside0.mk hr0
 have HC0 := Aside0.mk hc0
 clear hr0 hc0
 have HR1 := Aside0.mk hr1
 have HC1 := Aside0.mk hc1
 clear hr1 hc1
 have H : (if (l0.length : Int) = (l1.length : Int) then (backfilllaw14_sameInts.l0 k l0 l1 0) else (some false)) = some r := h
 clear h
 by_cases c3 : (l0.length : Int) = (l1.length : Int)
 ·rw [if_pos c3] at H
  have c3b0 : ((l0.length : Int) == (l1.length : Int)) = true := beq_iff_eq.mpr c3
  have c3b1 : ((l0.length : Int) != (l1.length : Int)) = false := bne_eq_false_iff_eq.mpr c3
  have c3b2 : (l0.length == l1.length) = true := by first | simpa using c3 | (simp at c3 ⊢; omega)
  clear c3
  have H' := Aside0.mk H
  clear H
  go_enter Try.func18, Try.ntmps18
  go_wp2
  repeat (go_quiet (fail); try go_wp2)
  go_loopg [5] k (fun kq v5 w' => ∃ (x5_1 : Int), v5 = .int .i64 x5_1 ∧ Aside0 (backfilllaw14_sameInts.l0 kq l0 l1 x5_1 = some r) ∧ Aside0 (kq ≤ k) ∧ Drawn0 w w')
  case atStart => exact ⟨(0), (by first | rfl | (simp; done) | (simp [*]; done)), H', ⟨Nat.le_refl _⟩, by repeat (first | exact Drawn0.refl _ | apply Drawn0.step)⟩
  case round =>
   clear H'
   try clear c1
   try clear p2
   try clear c3
   try clear c3b0
   try clear c3b1
   try clear c3b2
   obtain ⟨x5_1, rfl, HA, HK1, ⟨m1, rfl⟩⟩ := hrel
   cases gk with
   | zero => exact absurd HA.out (by simp [backfilllaw14_sameInts.l0])
   | succ k1 =>
    have H := HA.out
    clear HA
    simp only [backfilllaw14_sameInts.l0] at H
    by_cases c4 : x5_1 < (l0.length : Int)
    ·rw [if_pos c4] at H
     have c4b0 : decide (x5_1 < (l0.length : Int)) = true := decide_eq_true c4
     clear c4
     by_cases c5 : 0 ≤ x5_1
     ·rw [if_pos c5] at H
      have c5b0 : decide (0 ≤ x5_1) = true := decide_eq_true c5
      clear c5
      by_cases c6 : x5_1 < (l1.length : Int)
      ·rw [if_pos c6] at H
       have c6b0 : decide (x5_1 < (l1.length : Int)) = true := decide_eq_true c6
       clear c6
       by_cases c7 : (rd l0 x5_1) = (rd l1 x5_1)
       ·rw [if_pos c7] at H
        have c7b0 : ((rd l0 x5_1) == (rd l1 x5_1)) = true := beq_iff_eq.mpr c7
        have c7b1 : ((rd l0 x5_1) != (rd l1 x5_1)) = false := bne_eq_false_iff_eq.mpr c7
        clear c7
        have H' := Aside0.mk H
        clear H
        have p212 : 0 ≤ (x5_1 : Int) := of_decide_eq_true (by first | (with_reducible assumption) | assumption)
        have q212 : x5_1 < (l0.length : Int) := of_decide_eq_true (by first | (with_reducible assumption) | assumption)
        obtain ⟨ad212, e212, hx212_0⟩ := Kd.at_int HR0.out x5_1 p212 q212
        cases e212
        replace p212 := eq_true p212
        replace q212 := eq_true q212
        have p213 : 0 ≤ (x5_1 : Int) := of_decide_eq_true (by first | (with_reducible assumption) | assumption)
        have q213 : x5_1 < (l1.length : Int) := of_decide_eq_true (by first | (with_reducible assumption) | assumption)
        obtain ⟨ad213, e213, hx213_0⟩ := Kd.at_int HR1.out x5_1 p213 q213
        cases e213
        replace p213 := eq_true p213
        replace q213 := eq_true q213
        go_wp2
        repeat (go_quiet (fail); try go_wp2)
        go_roundg k1
        case measure => have := HK1.out; omega
        case rel => exact ⟨(wrap64 (x5_1 + 1)), (by first | rfl | (simp; done) | (simp [*]; done)), H', ⟨by have := HK1.out; omega⟩, by repeat (first | exact Drawn0.refl _ | apply Drawn0.step)⟩
       ·rw [if_neg c7] at H
        have c7b0 : ((rd l0 x5_1) == (rd l1 x5_1)) = false := beq_eq_false_iff_ne.mpr c7
        have c7b1 : ((rd l0 x5_1) != (rd l1 x5_1)) = true := bne_iff_ne.mpr c7
        obtain rfl := Option.some.inj H
        have p212 : 0 ≤ (x5_1 : Int) := of_decide_eq_true (by first | (with_reducible assumption) | assumption)
        have q212 : x5_1 < (l0.length : Int) := of_decide_eq_true (by first | (with_reducible assumption) | assumption)
        obtain ⟨ad212, e212, hx212_0⟩ := Kd.at_int HR0.out x5_1 p212 q212
        cases e212
        replace p212 := eq_true p212
        replace q212 := eq_true q212
        have p213 : 0 ≤ (x5_1 : Int) := of_decide_eq_true (by first | (with_reducible assumption) | assumption)
        have q213 : x5_1 < (l1.length : Int) := of_decide_eq_true (by first | (with_reducible assumption) | assumption)
        obtain ⟨ad213, e213, hx213_0⟩ := Kd.at_int HR1.out x5_1 p213 q213
        cases e213
        replace p213 := eq_true p213
        replace q213 := eq_true q213
        go_wp2
        repeat (go_quiet (fail); try go_wp2)
        go_ret
        exact ⟨by first | rfl | (simp; done) | (simp [*]; done), by repeat (first | exact Drawn0.refl _ | apply Drawn0.step)⟩
      ·rw [if_neg c6] at H
       exact absurd H (by simp)
     ·rw [if_neg c5] at H
      exact absurd H (by simp)
    ·rw [if_neg c4] at H
     have c4b0 : decide (x5_1 < (l0.length : Int)) = false := decide_eq_false c4
     clear c4
     obtain rfl := Option.some.inj H
     go_wp2
     repeat (go_quiet (fail); try go_wp2)
     go_ret
     exact ⟨by first | rfl | (simp; done) | (simp [*]; done), by repeat (first | exact Drawn0.refl _ | apply Drawn0.step)⟩
 ·rw [if_neg c3] at H
  have c3b0 : ((l0.length : Int) == (l1.length : Int)) = false := beq_eq_false_iff_ne.mpr c3
  have c3b1 : ((l0.length : Int) != (l1.length : Int)) = true := bne_iff_ne.mpr c3
  have c3b2 : (l0.length == l1.length) = false := by first | simpa using c3 | (simp at c3 ⊢; omega)
  obtain rfl := Option.some.inj H
  go_enter Try.func18, Try.ntmps18
  go_wp2
  repeat (go_quiet (fail); try go_wp2)
  go_ret
  exact ⟨by first | rfl | (simp; done) | (simp [*]; done), by repeat (first | exact Drawn0.refl _ | apply Drawn0.step)⟩

/-! ### backfilllaw14_plain: function 19 -/
def backfilllaw14_plain.f  : Option (Int × Int × Int × Int × Int × Int × Int × Int) := some (4, 8, 10, 2, 1000, 3, 100, 100)
set_option maxHeartbeats 8000000 in
set_option maxRecDepth 100000 in
theorem backfilllaw14_plain.calls  (r1 : Int) (r2 : Int) (r3 : Int) (r4 : Int) (r5 : Int) (r6 : Int) (r7 : Int) (r8 : Int) (w : World) (h : backfilllaw14_plain.f  = some (r1, r2, r3, r4, r5, r6, r7, r8)) :
  Calls Try.prog 19 #[] w fun e w' => e = .returned (.agg #[.int .i64 r1, .int .i64 r2, .int .i64 r3, .int .i64 r4, .int .i64 r5, .int .i64 r6, .int .i64 r7, .int .i64 r8]) ∧ Below w.heap.size w w' := by
 have hu31 := Try.underlying31
 have HB := Aside0.mk (Below.refl w.heap.size w)
 have H : (some (4, 8, 10, 2, 1000, 3, 100, 100)) = some (r1, r2, r3, r4, r5, r6, r7, r8) := h
 clear h
 simp only [Option.some.injEq, Prod.mk.injEq] at H
 obtain ⟨rfl, rfl, rfl, rfl, rfl, rfl, rfl, rfl⟩ := H
 go_enter Try.func19, Try.ntmps19
 go_wp2_with (first | ((with_reducible refine gate_dst (N := 0) rfl ?_); refine bxA 0 #[.int .i64 0, .int .i64 0, .int .i64 0, .int .i64 0, .int .i64 0, .int .i64 0, .int .i64 0, .int .i64 0] 31 ?_; intro gb214 hg w1 hbox hb; have n0_ := Aside0.mk (below_step bA hb); have n1_ := Aside0.mk (hbox); have n2_ := Aside0.mk (gwA hg bA); have n3_ := Aside0.mk (gwA hg bA); clear HB; have HB := n0_; have BK214 := n1_; have GW214 := n2_; have GE214 := n3_; clear n0_ n1_ n2_ n3_ hb hbox hg; have hcz2_0 : w1.cell? ⟨gb214, 0, none⟩ = some (.int .i64 0) := (blk_cell BK214.out 0).trans rfl; have hcz2_1 : w1.cell? ⟨gb214, 1, none⟩ = some (.int .i64 0) := (blk_cell BK214.out 1).trans rfl; have hcz2_2 : w1.cell? ⟨gb214, 2, none⟩ = some (.int .i64 0) := (blk_cell BK214.out 2).trans rfl; have hcz2_3 : w1.cell? ⟨gb214, 3, none⟩ = some (.int .i64 0) := (blk_cell BK214.out 3).trans rfl; have hcz2_4 : w1.cell? ⟨gb214, 4, none⟩ = some (.int .i64 0) := (blk_cell BK214.out 4).trans rfl; have hcz2_5 : w1.cell? ⟨gb214, 5, none⟩ = some (.int .i64 0) := (blk_cell BK214.out 5).trans rfl; have hcz2_6 : w1.cell? ⟨gb214, 6, none⟩ = some (.int .i64 0) := (blk_cell BK214.out 6).trans rfl; have hcz2_7 : w1.cell? ⟨gb214, 7, none⟩ = some (.int .i64 0) := (blk_cell BK214.out 7).trans rfl; have hfz2_0 := blk_frozen BK214.out 0; have hfz2_1 := blk_frozen BK214.out 1; have hfz2_2 := blk_frozen BK214.out 2; have hfz2_3 := blk_frozen BK214.out 3; have hfz2_4 := blk_frozen BK214.out 4; have hfz2_5 := blk_frozen BK214.out 5; have hfz2_6 := blk_frozen BK214.out 6; have hfz2_7 := blk_frozen BK214.out 7))
 refine bodyPost_ret (results_cell_row rfl _ _ gb214 31 #[.int .i64 4, .int .i64 8, .int .i64 10, .int .i64 2, .int .i64 1000, .int .i64 3, .int .i64 100, .int .i64 100] (0, 0) _ rfl (by (with_reducible repeat (first | refine blk_drewN ?_ _ | refine blk_drew ?_ | refine blk_alloc ?_ _)); refine blk_put (cs := #[.int .i64 4, .int .i64 8, .int .i64 10, .int .i64 2, .int .i64 1000, .int .i64 3, .int .i64 100, .int .i64 0]) ?_ 7 _ rfl; (with_reducible repeat (first | refine blk_drewN ?_ _ | refine blk_drew ?_ | refine blk_alloc ?_ _)); refine blk_put (cs := #[.int .i64 4, .int .i64 8, .int .i64 10, .int .i64 2, .int .i64 1000, .int .i64 3, .int .i64 0, .int .i64 0]) ?_ 6 _ rfl; (with_reducible repeat (first | refine blk_drewN ?_ _ | refine blk_drew ?_ | refine blk_alloc ?_ _)); refine blk_put (cs := #[.int .i64 4, .int .i64 8, .int .i64 10, .int .i64 2, .int .i64 1000, .int .i64 0, .int .i64 0, .int .i64 0]) ?_ 5 _ rfl; (with_reducible repeat (first | refine blk_drewN ?_ _ | refine blk_drew ?_ | refine blk_alloc ?_ _)); refine blk_put (cs := #[.int .i64 4, .int .i64 8, .int .i64 10, .int .i64 2, .int .i64 0, .int .i64 0, .int .i64 0, .int .i64 0]) ?_ 4 _ rfl; (with_reducible repeat (first | refine blk_drewN ?_ _ | refine blk_drew ?_ | refine blk_alloc ?_ _)); refine blk_put (cs := #[.int .i64 4, .int .i64 8, .int .i64 10, .int .i64 0, .int .i64 0, .int .i64 0, .int .i64 0, .int .i64 0]) ?_ 3 _ rfl; (with_reducible repeat (first | refine blk_drewN ?_ _ | refine blk_drew ?_ | refine blk_alloc ?_ _)); refine blk_put (cs := #[.int .i64 4, .int .i64 8, .int .i64 0, .int .i64 0, .int .i64 0, .int .i64 0, .int .i64 0, .int .i64 0]) ?_ 2 _ rfl; (with_reducible repeat (first | refine blk_drewN ?_ _ | refine blk_drew ?_ | refine blk_alloc ?_ _)); refine blk_put (cs := #[.int .i64 4, .int .i64 0, .int .i64 0, .int .i64 0, .int .i64 0, .int .i64 0, .int .i64 0, .int .i64 0]) ?_ 1 _ rfl; (with_reducible repeat (first | refine blk_drewN ?_ _ | refine blk_drew ?_ | refine blk_alloc ?_ _)); refine blk_put (cs := #[.int .i64 0, .int .i64 0, .int .i64 0, .int .i64 0, .int .i64 0, .int .i64 0, .int .i64 0, .int .i64 0]) ?_ 0 _ rfl; exact kA) Try.underlying31 rfl (by kernel_rfl)) rfl ?_
 exact ⟨by first | rfl | (simp [errW_none, errW_some] <;> rfl) | (simp [*, errW_none, errW_some] <;> rfl), bA⟩

end Go.Proofs.Ytodibpddlibneaa.GPT
