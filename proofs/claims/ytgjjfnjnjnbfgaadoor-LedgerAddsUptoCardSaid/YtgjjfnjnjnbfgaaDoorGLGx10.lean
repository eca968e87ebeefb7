-- Laid by a program of this session (wip/tools/pr.py): contracts and pure functions; Lean checks it.
import Derived.Test.YtgjjfnjnjnbfgaaDoorGLGx0
namespace Go.Proofs.YtgjjfnjnjnbfgaaDoor.GLG
open Go.RowKit Go.Proofs.YtgjjfnjnjnbfgaaDoorW.PrintWords Go.Proofs.YtgjjfnjnjnbfgaaDoorW.PrintLast Go.Proofs.YtgjjfnjnjnbfgaaDoorW.PrintMore
attribute [local go_sem] max2_int min2_int max_two min_two max_three min_three max_four min_four   -- for this text's walks alone
set_option linter.unusedVariables false
set_option linter.unusedSimpArgs false

/-! ### backfillref12_Raw: function 26 -/
mutual
def backfillref12_Raw.l0 : Nat → List Int → Int → Int → List (S65) → Int → Int → Option (Int)
 | 0, _, _, _, _, _, _ => none
 | k + 1, x1, x2, x7, x13, x14, x15 => if x15 < x14 then (if 0 ≤ x15 then (if x15 < (x13.length : Int) then (backfillref12_Raw.l1 k x1 x2 x7 false x13 x14 x15 x1 (x1.length : Int) 0 ((rd_T65 x13 x15).f0) ((rd_T65 x13 x15).f1) ((rd_T65 x13 x15).f2) ((rd_T65 x13 x15).f3) ((rd_T65 x13 x15).f4) ((rd_T65 x13 x15).f5) ((rd_T65 x13 x15).f6) ((rd_T65 x13 x15).f7)) else (none)) else (none)) else (some x7)
def backfillref12_Raw.l1 : Nat → List Int → Int → Int → Bool → List (S65) → Int → Int → List Int → Int → Int → Int → Int → Int → Int → Int → Int → Int → List Int → Option (Int)
 | 0, _, _, _, _, _, _, _, _, _, _, _, _, _, _, _, _, _, _ => none
 | k + 1, x1, x2, x7, x10, x13, x14, x15, x19, x20, x21, x255000, x255001, x255002, x255003, x255004, x255005, x255006, x255007 => if x21 < x20 then (if 0 ≤ x21 then (if x21 < (x19.length : Int) then (if x10 = true then (backfillref12_Raw.l1 k x1 x2 x7 true x13 x14 x15 x19 x20 (wrap64 (x21 + 1)) x255000 x255001 x255002 x255003 x255004 x255005 x255006 x255007) else (backfillref12_Raw.l1 k x1 x2 x7 ((rd x19 x21) == x255000) x13 x14 x15 x19 x20 (wrap64 (x21 + 1)) x255000 x255001 x255002 x255003 x255004 x255005 x255006 x255007)) else (none)) else (none)) else (if x10 = true then (if x255004 = 3 then (backfillref12_Raw.j2 k x1 x2 x7 x13 x14 x15 x255004 (x255004 == 3) x255000 x255001 x255002 x255003 x255004 x255005 x255006 x255007) else (if x255004 = 4 then (backfillref12_Raw.j2 k x1 x2 x7 x13 x14 x15 x255004 (x255004 == 4) x255000 x255001 x255002 x255003 x255004 x255005 x255006 x255007) else (backfillref12_Raw.j2 k x1 x2 x7 x13 x14 x15 x255004 (x255004 == 5) x255000 x255001 x255002 x255003 x255004 x255005 x255006 x255007))) else (backfillref12_Raw.l0 k x1 x2 x7 x13 x14 (wrap64 (x15 + 1))))
def backfillref12_Raw.j2 : Nat → List Int → Int → Int → List (S65) → Int → Int → Int → Bool → Int → Int → Int → Int → Int → Int → Int → List Int → Option (Int)
 | 0, _, _, _, _, _, _, _, _, _, _, _, _, _, _, _, _ => none
 | k + 1, x1, x2, x7, x13, x14, x15, x36, x37, x255000, x255001, x255002, x255003, x255004, x255005, x255006, x255007 => if x37 = true then (backfillref12_Raw.l0 k x1 x2 (wrap64 (x7 + (wrap64 (x255001 * (wrap64 (x255006 - x255005)))))) x13 x14 (wrap64 (x15 + 1))) else (if x36 = 2 then (backfillref12_Raw.l0 k x1 x2 (wrap64 (x7 + (wrap64 (x255001 * (wrap64 (x2 - x255005)))))) x13 x14 (wrap64 (x15 + 1))) else (backfillref12_Raw.l0 k x1 x2 x7 x13 x14 (wrap64 (x15 + 1))))
end
def backfillref12_Raw.f (k : Nat) (l0 : List (S65)) (l1 : List Int) (a2 : Int) : Option (Int) := backfillref12_Raw.l0 k l1 a2 0 l0 (l0.length : Int) 0
theorem backfillref12_Raw.mono_l : ∀ k, (∀ y0 y1 y2 y3 y4 y5, LeO (backfillref12_Raw.l0 k y0 y1 y2 y3 y4 y5) (backfillref12_Raw.l0 (k + 1) y0 y1 y2 y3 y4 y5)) ∧ (∀ y0 y1 y2 y3 y4 y5 y6 y7 y8 y9 y10 y11 y12 y13 y14 y15 y16 y17, LeO (backfillref12_Raw.l1 k y0 y1 y2 y3 y4 y5 y6 y7 y8 y9 y10 y11 y12 y13 y14 y15 y16 y17) (backfillref12_Raw.l1 (k + 1) y0 y1 y2 y3 y4 y5 y6 y7 y8 y9 y10 y11 y12 y13 y14 y15 y16 y17)) ∧ (∀ y0 y1 y2 y3 y4 y5 y6 y7 y8 y9 y10 y11 y12 y13 y14 y15, LeO (backfillref12_Raw.j2 k y0 y1 y2 y3 y4 y5 y6 y7 y8 y9 y10 y11 y12 y13 y14 y15) (backfillref12_Raw.j2 (k + 1) y0 y1 y2 y3 y4 y5 y6 y7 y8 y9 y10 y11 y12 y13 y14 y15))
 | 0 => ⟨fun _ _ _ _ _ _ r h => by simp [backfillref12_Raw.l0] at h, fun _ _ _ _ _ _ _ _ _ _ _ _ _ _ _ _ _ _ r h => by simp [backfillref12_Raw.l1] at h, fun _ _ _ _ _ _ _ _ _ _ _ _ _ _ _ _ r h => by simp [backfillref12_Raw.j2] at h⟩
 | k + 1 => by
  obtain ⟨ih0, ih1, ih2⟩ := backfillref12_Raw.mono_l k
  refine ⟨?_, ?_, ?_⟩
  ·intro y0 y1 y2 y3 y4 y5
   unfold backfillref12_Raw.l0
   repeat' first
   | (with_reducible exact ih0 _ _ _ _ _ _)
   | (with_reducible exact ih1 _ _ _ _ _ _ _ _ _ _ _ _ _ _ _ _ _ _)
   | (with_reducible exact ih2 _ _ _ _ _ _ _ _ _ _ _ _ _ _ _ _)
   | (with_reducible exact LeO.refl _)
   | (with_reducible exact LeO.none _)
   | (with_reducible refine LeO.ite ?_ ?_)
   | (with_reducible refine LeO.bind ?_ (fun _ => ?_))
   | exact ih0 _ _ _ _ _ _
   | exact ih1 _ _ _ _ _ _ _ _ _ _ _ _ _ _ _ _ _ _
   | exact ih2 _ _ _ _ _ _ _ _ _ _ _ _ _ _ _ _
   | exact LeO.none _
   | refine LeO.ite ?_ ?_
   | refine LeO.bind ?_ (fun _ => ?_)
  ·intro y0 y1 y2 y3 y4 y5 y6 y7 y8 y9 y10 y11 y12 y13 y14 y15 y16 y17
   unfold backfillref12_Raw.l1
   repeat' first
   | (with_reducible exact ih0 _ _ _ _ _ _)
   | (with_reducible exact ih1 _ _ _ _ _ _ _ _ _ _ _ _ _ _ _ _ _ _)
   | (with_reducible exact ih2 _ _ _ _ _ _ _ _ _ _ _ _ _ _ _ _)
   | (with_reducible exact LeO.refl _)
   | (with_reducible exact LeO.none _)
   | (with_reducible refine LeO.ite ?_ ?_)
   | (with_reducible refine LeO.bind ?_ (fun _ => ?_))
   | exact ih0 _ _ _ _ _ _
   | exact ih1 _ _ _ _ _ _ _ _ _ _ _ _ _ _ _ _ _ _
   | exact ih2 _ _ _ _ _ _ _ _ _ _ _ _ _ _ _ _
   | exact LeO.none _
   | refine LeO.ite ?_ ?_
   | refine LeO.bind ?_ (fun _ => ?_)
  ·intro y0 y1 y2 y3 y4 y5 y6 y7 y8 y9 y10 y11 y12 y13 y14 y15
   unfold backfillref12_Raw.j2
   repeat' first
   | (with_reducible exact ih0 _ _ _ _ _ _)
   | (with_reducible exact ih1 _ _ _ _ _ _ _ _ _ _ _ _ _ _ _ _ _ _)
   | (with_reducible exact ih2 _ _ _ _ _ _ _ _ _ _ _ _ _ _ _ _)
   | (with_reducible exact LeO.refl _)
   | (with_reducible exact LeO.none _)
   | (with_reducible refine LeO.ite ?_ ?_)
   | (with_reducible refine LeO.bind ?_ (fun _ => ?_))
   | exact ih0 _ _ _ _ _ _
   | exact ih1 _ _ _ _ _ _ _ _ _ _ _ _ _ _ _ _ _ _
   | exact ih2 _ _ _ _ _ _ _ _ _ _ _ _ _ _ _ _
   | exact LeO.none _
   | refine LeO.ite ?_ ?_
   | refine LeO.bind ?_ (fun _ => ?_)
theorem backfillref12_Raw.mono : ∀ a0 a1 a2 k, LeO (backfillref12_Raw.f k a0 a1 a2) (backfillref12_Raw.f (k + 1) a0 a1 a2) := by
 intro a0 a1 a2 k
 obtain ⟨ih0, ih1, ih2⟩ := backfillref12_Raw.mono_l k
 unfold backfillref12_Raw.f
 repeat' first
   | (with_reducible exact ih0 _ _ _ _ _ _)
   | (with_reducible exact ih1 _ _ _ _ _ _ _ _ _ _ _ _ _ _ _ _ _ _)
   | (with_reducible exact ih2 _ _ _ _ _ _ _ _ _ _ _ _ _ _ _ _)
   | (with_reducible exact LeO.refl _)
   | (with_reducible exact LeO.none _)
   | (with_reducible refine LeO.ite ?_ ?_)
   | (with_reducible refine LeO.bind ?_ (fun _ => ?_))
   | exact ih0 _ _ _ _ _ _
   | exact ih1 _ _ _ _ _ _ _ _ _ _ _ _ _ _ _ _ _ _
   | exact ih2 _ _ _ _ _ _ _ _ _ _ _ _ _ _ _ _
   | exact LeO.none _
   | refine LeO.ite ?_ ?_
   | refine LeO.bind ?_ (fun _ => ?_)
set_option maxHeartbeats 8000000 in
set_option maxRecDepth 100000 in
theorem backfillref12_Raw.calls (k : Nat) (A0 : Option Addr) (c0 : Nat) (l0 : List (S65)) (A1 : Option Addr) (c1 : Nat) (l1 : List Int) (a2 : Int) (r : Int) (w : World) (hr0 : Kd.C k65 w A0 l0.length l0) (hc0 : l0.length ≤ c0) (hr1 : Kd.C (Kd.int .i64) w A1 l1.length l1) (hc1 : l1.length ≤ c1) (h : backfillref12_Raw.f k l0 l1 a2 = some r) :
  Calls Tryd.prog 26 #[.slice A0 l0.length c0, .slice A1 l1.length c1, .int .i64 a2] w fun e w' => e = .returned (.int .i64 r) ∧ Below w.heap.size w w' := by
 have hu65 := Tryd.underlying65
 have HR0 := Aside0.mk hr0
 have HC0 := Aside0.mk hc0
 clear hr0 hc0
 have HR1 := Aside0.mk hr1
 have HC1 := Aside0.mk hc1
 clear hr1 hc1; have HB := Aside0.mk (Below.refl w.heap.size w)
 have H : (backfillref12_Raw.l0 k l1 a2 0 l0 (l0.length : Int) 0) = some r := h
 clear h
 have H' := Aside0.mk H
 clear H
 go_enter Tryd.func26, Tryd.ntmps26
 go_wp2
 go_loopg [7, 15] k (fun kq v7 v15 w' => ∃ (x7_1 : Int) (x15_1 : Int), v7 = .int .i64 x7_1 ∧ v15 = .int .i64 x15_1 ∧ Aside0 (backfillref12_Raw.l0 kq l1 a2 x7_1 l0 (l0.length : Int) x15_1 = some r) ∧ Aside0 (kq ≤ k) ∧ Aside0 (Below w.heap.size w w'))
 case atStart => exact ⟨(0), (0), (by first | rfl | (simp; done) | (simp [*]; done)), (by first | rfl | (simp; done) | (simp [*]; done)), H', ⟨Nat.le_refl _⟩, ⟨bA⟩⟩
 case round =>
  clear H'
  try clear c1
  try clear c2
  try clear p2
  obtain ⟨x7_1, x15_1, rfl, rfl, HA, HK1, HB⟩ := hrel
  cases gk with
  | zero => exact absurd HA.out (by simp [backfillref12_Raw.l0])
  | succ k1 =>
   have H := HA.out
   clear HA
   simp only [backfillref12_Raw.l0] at H
   by_cases c4 : x15_1 < (l0.length : Int)
   ·rw [if_pos c4] at H
    have c4b0 : decide (x15_1 < (l0.length : Int)) = true := decide_eq_true c4
    clear c4
    by_cases c5 : 0 ≤ x15_1
    ·rw [if_pos c5] at H
     have c5b0 : decide (0 ≤ x15_1) = true := decide_eq_true c5
     clear c5
     by_cases c6 : x15_1 < (l0.length : Int)
     ·rw [if_pos c6] at H
      have c6b0 : decide (x15_1 < (l0.length : Int)) = true := decide_eq_true c6
      clear c6
      have H' := Aside0.mk H
      clear H
      have p253 : 0 ≤ (x15_1 : Int) := of_decide_eq_true (by first | (with_reducible assumption) | assumption)
      have q253 : x15_1 < (l0.length : Int) := of_decide_eq_true (by first | (with_reducible assumption) | assumption)
      obtain ⟨ad253, A253_7, c253_7, e253, hx253_0, hx253_1, hx253_2, hx253_3, hx253_4, hx253_5, hx253_6, hx253_7, hl253_7, hi253_7⟩ := at_T65 HR0.out x15_1 p253 q253
      cases e253
      replace hx253_0 := (HB.out.cell (World.block_lt_of_cell? w _ hx253_0)).trans hx253_0
      replace hx253_1 := (HB.out.cell (World.block_lt_of_cell? w _ hx253_1)).trans hx253_1
      replace hx253_2 := (HB.out.cell (World.block_lt_of_cell? w _ hx253_2)).trans hx253_2
      replace hx253_3 := (HB.out.cell (World.block_lt_of_cell? w _ hx253_3)).trans hx253_3
      replace hx253_4 := (HB.out.cell (World.block_lt_of_cell? w _ hx253_4)).trans hx253_4
      replace hx253_5 := (HB.out.cell (World.block_lt_of_cell? w _ hx253_5)).trans hx253_5
      replace hx253_6 := (HB.out.cell (World.block_lt_of_cell? w _ hx253_6)).trans hx253_6
      replace hx253_7 := (HB.out.cell (World.block_lt_of_cell? w _ hx253_7)).trans hx253_7
      have HR253_7 := Aside0.mk hi253_7
      have HC253_7 := Aside0.mk hl253_7
      clear hi253_7 hl253_7
      replace p253 := eq_true p253
      replace q253 := eq_true q253
      go_wp2_with (first | ((with_reducible refine gate_dst (N := 9) rfl ?_); refine bxA 9 #[.int .i64 0, .int .i64 0, .int .i64 0, .int .i64 0, .int .i64 0, .int .i64 0, .int .i64 0, .slice none 0 0] 65 ?_; intro gb254 hg w7 hbox hb; have n0_ := Aside0.mk (below_step bA hb); have n1_ := Aside0.mk (hbox); have n2_ := Aside0.mk (gwA hg bA); have n3_ := Aside0.mk (gwA hg bA); clear HB; have HB := n0_; have BK254 := n1_; have GW254 := n2_; have GE254 := n3_; clear n0_ n1_ n2_ n3_ hb hbox hg; have hcz8_0 : w7.cell? ⟨gb254, 0, none⟩ = some (.int .i64 0) := (blk_cell BK254.out 0).trans rfl; have hcz8_1 : w7.cell? ⟨gb254, 1, none⟩ = some (.int .i64 0) := (blk_cell BK254.out 1).trans rfl; have hcz8_2 : w7.cell? ⟨gb254, 2, none⟩ = some (.int .i64 0) := (blk_cell BK254.out 2).trans rfl; have hcz8_3 : w7.cell? ⟨gb254, 3, none⟩ = some (.int .i64 0) := (blk_cell BK254.out 3).trans rfl; have hcz8_4 : w7.cell? ⟨gb254, 4, none⟩ = some (.int .i64 0) := (blk_cell BK254.out 4).trans rfl; have hcz8_5 : w7.cell? ⟨gb254, 5, none⟩ = some (.int .i64 0) := (blk_cell BK254.out 5).trans rfl; have hcz8_6 : w7.cell? ⟨gb254, 6, none⟩ = some (.int .i64 0) := (blk_cell BK254.out 6).trans rfl; have hcz8_7 : w7.cell? ⟨gb254, 7, none⟩ = some (.slice none 0 0) := (blk_cell BK254.out 7).trans rfl; have hfz8_0 := blk_frozen BK254.out 0; have hfz8_1 := blk_frozen BK254.out 1; have hfz8_2 := blk_frozen BK254.out 2; have hfz8_3 := blk_frozen BK254.out 3; have hfz8_4 := blk_frozen BK254.out 4; have hfz8_5 := blk_frozen BK254.out 5; have hfz8_6 := blk_frozen BK254.out 6; have hfz8_7 := blk_frozen BK254.out 7))
      go_loopg [10, 21] k1 (fun kq v10 v21 w' => ∃ (x10_2 : Bool) (x21_2 : Int), v10 = .bool x10_2 ∧ v21 = .int .i64 x21_2 ∧ Aside0 (backfillref12_Raw.l1 kq l1 a2 x7_1 x10_2 l0 (l0.length : Int) x15_1 l1 (l1.length : Int) x21_2 ((rd_T65 l0 x15_1).f0) ((rd_T65 l0 x15_1).f1) ((rd_T65 l0 x15_1).f2) ((rd_T65 l0 x15_1).f3) ((rd_T65 l0 x15_1).f4) ((rd_T65 l0 x15_1).f5) ((rd_T65 l0 x15_1).f6) ((rd_T65 l0 x15_1).f7) = some r) ∧ Aside0 (kq ≤ k1) ∧ Aside0 (w'.heap[gb254]? = some (.cells #[.int .i64 ((rd_T65 l0 x15_1).f0), .int .i64 ((rd_T65 l0 x15_1).f1), .int .i64 ((rd_T65 l0 x15_1).f2), .int .i64 ((rd_T65 l0 x15_1).f3), .int .i64 ((rd_T65 l0 x15_1).f4), .int .i64 ((rd_T65 l0 x15_1).f5), .int .i64 ((rd_T65 l0 x15_1).f6), (.slice A253_7 ((rd_T65 l0 x15_1).f7).length c253_7)] 65 (0, 0))) ∧ Aside0 (Below w.heap.size w w'))
      case atStart => exact ⟨(false), (0), (by first | rfl | (simp; done) | (simp [*]; done)), (by first | rfl | (simp; done) | (simp [*]; done)), H', ⟨Nat.le_refl _⟩, ⟨by (with_reducible repeat (first | refine blk_drewN ?_ _ | refine blk_drew ?_ | refine blk_alloc ?_ _)); refine blk_put (cs := #[.int .i64 ((rd_T65 l0 x15_1).f0), .int .i64 ((rd_T65 l0 x15_1).f1), .int .i64 ((rd_T65 l0 x15_1).f2), .int .i64 ((rd_T65 l0 x15_1).f3), .int .i64 ((rd_T65 l0 x15_1).f4), .int .i64 ((rd_T65 l0 x15_1).f5), .int .i64 ((rd_T65 l0 x15_1).f6), .slice none 0 0]) ?_ 7 _ rfl; (with_reducible repeat (first | refine blk_drewN ?_ _ | refine blk_drew ?_ | refine blk_alloc ?_ _)); refine blk_put (cs := #[.int .i64 ((rd_T65 l0 x15_1).f0), .int .i64 ((rd_T65 l0 x15_1).f1), .int .i64 ((rd_T65 l0 x15_1).f2), .int .i64 ((rd_T65 l0 x15_1).f3), .int .i64 ((rd_T65 l0 x15_1).f4), .int .i64 ((rd_T65 l0 x15_1).f5), .int .i64 0, .slice none 0 0]) ?_ 6 _ rfl; (with_reducible repeat (first | refine blk_drewN ?_ _ | refine blk_drew ?_ | refine blk_alloc ?_ _)); refine blk_put (cs := #[.int .i64 ((rd_T65 l0 x15_1).f0), .int .i64 ((rd_T65 l0 x15_1).f1), .int .i64 ((rd_T65 l0 x15_1).f2), .int .i64 ((rd_T65 l0 x15_1).f3), .int .i64 ((rd_T65 l0 x15_1).f4), .int .i64 0, .int .i64 0, .slice none 0 0]) ?_ 5 _ rfl; (with_reducible repeat (first | refine blk_drewN ?_ _ | refine blk_drew ?_ | refine blk_alloc ?_ _)); refine blk_put (cs := #[.int .i64 ((rd_T65 l0 x15_1).f0), .int .i64 ((rd_T65 l0 x15_1).f1), .int .i64 ((rd_T65 l0 x15_1).f2), .int .i64 ((rd_T65 l0 x15_1).f3), .int .i64 0, .int .i64 0, .int .i64 0, .slice none 0 0]) ?_ 4 _ rfl; (with_reducible repeat (first | refine blk_drewN ?_ _ | refine blk_drew ?_ | refine blk_alloc ?_ _)); refine blk_put (cs := #[.int .i64 ((rd_T65 l0 x15_1).f0), .int .i64 ((rd_T65 l0 x15_1).f1), .int .i64 ((rd_T65 l0 x15_1).f2), .int .i64 0, .int .i64 0, .int .i64 0, .int .i64 0, .slice none 0 0]) ?_ 3 _ rfl; (with_reducible repeat (first | refine blk_drewN ?_ _ | refine blk_drew ?_ | refine blk_alloc ?_ _)); refine blk_put (cs := #[.int .i64 ((rd_T65 l0 x15_1).f0), .int .i64 ((rd_T65 l0 x15_1).f1), .int .i64 0, .int .i64 0, .int .i64 0, .int .i64 0, .int .i64 0, .slice none 0 0]) ?_ 2 _ rfl; (with_reducible repeat (first | refine blk_drewN ?_ _ | refine blk_drew ?_ | refine blk_alloc ?_ _)); refine blk_put (cs := #[.int .i64 ((rd_T65 l0 x15_1).f0), .int .i64 0, .int .i64 0, .int .i64 0, .int .i64 0, .int .i64 0, .int .i64 0, .slice none 0 0]) ?_ 1 _ rfl; (with_reducible repeat (first | refine blk_drewN ?_ _ | refine blk_drew ?_ | refine blk_alloc ?_ _)); refine blk_put (cs := #[.int .i64 0, .int .i64 0, .int .i64 0, .int .i64 0, .int .i64 0, .int .i64 0, .int .i64 0, .slice none 0 0]) ?_ 0 _ rfl; exact kA⟩, ⟨bA⟩⟩
      case round =>
       clear H'
       try clear c1
       try clear c2
       try clear p2
       try clear q2
       try clear hx2
       try clear c4
       try clear c4b0
       try clear c5
       try clear c5b0
       try clear c6
       try clear c6b0
       try clear hcz8_0
       try clear hcz8_1
       try clear hcz8_2
       try clear hcz8_3
       try clear hcz8_4
       try clear hcz8_5
       try clear hcz8_6
       try clear hcz8_7
       try clear hfz8_0
       try clear hfz8_1
       try clear hfz8_2
       try clear hfz8_3
       try clear hfz8_4
       try clear hfz8_5
       try clear hfz8_6
       try clear hfz8_7
       try clear hx253_0
       try clear hx253_1
       try clear hx253_2
       try clear hx253_3
       try clear hx253_4
       try clear hx253_5
       try clear hx253_6
       try clear hx253_7
       try clear p2
       try clear p253
       try clear q253
       obtain ⟨x10_2, x21_2, rfl, rfl, HA, HK2, BK254, HB⟩ := hrel
       cases gk with
       | zero => exact absurd HA.out (by simp [backfillref12_Raw.l1])
       | succ k2 =>
        have H := HA.out
        clear HA
        simp only [backfillref12_Raw.l1] at H
        by_cases c9 : x21_2 < (l1.length : Int)
        ·rw [if_pos c9] at H
         have c9b0 : decide (x21_2 < (l1.length : Int)) = true := decide_eq_true c9
         clear c9
         by_cases c10 : 0 ≤ x21_2
         ·rw [if_pos c10] at H
          have c10b0 : decide (0 ≤ x21_2) = true := decide_eq_true c10
          clear c10
          by_cases c11 : x21_2 < (l1.length : Int)
          ·rw [if_pos c11] at H
           have c11b0 : decide (x21_2 < (l1.length : Int)) = true := decide_eq_true c11
           clear c11
           by_cases c12 : x10_2 = true
           ·subst c12
            have H1 : (backfillref12_Raw.l1 k2 l1 a2 x7_1 true l0 (l0.length : Int) x15_1 l1 (l1.length : Int) (wrap64 (x21_2 + 1)) ((rd_T65 l0 x15_1).f0) ((rd_T65 l0 x15_1).f1) ((rd_T65 l0 x15_1).f2) ((rd_T65 l0 x15_1).f3) ((rd_T65 l0 x15_1).f4) ((rd_T65 l0 x15_1).f5) ((rd_T65 l0 x15_1).f6) ((rd_T65 l0 x15_1).f7)) = some r := by rw [if_pos rfl] at H; exact H
            clear H
            have H := H1
            clear H1
            have H' := Aside0.mk H
            clear H
            have p255 : 0 ≤ (x21_2 : Int) := of_decide_eq_true (by first | (with_reducible assumption) | assumption)
            have q255 : x21_2 < (l1.length : Int) := of_decide_eq_true (by first | (with_reducible assumption) | assumption)
            obtain ⟨ad255, e255, hx255_0⟩ := Kd.at_int HR1.out x21_2 p255 q255
            cases e255
            replace hx255_0 := (HB.out.cell (World.block_lt_of_cell? w _ hx255_0)).trans hx255_0
            replace p255 := eq_true p255
            replace q255 := eq_true q255
            go_wp2
            go_roundg k2
            case measure => have := HK1.out; have := HK2.out; omega
            case rel => exact ⟨(true), (wrap64 (x21_2 + 1)), (by first | rfl | (simp; done) | (simp [*]; done)), (by first | rfl | (simp; done) | (simp [*]; done)), H', ⟨by have := HK1.out; have := HK2.out; omega⟩, ⟨by exact kA⟩, ⟨bA⟩⟩
           ·replace c12 := Bool.eq_false_iff.mpr c12
            subst c12
            have H1 : (backfillref12_Raw.l1 k2 l1 a2 x7_1 ((rd l1 x21_2) == ((rd_T65 l0 x15_1).f0)) l0 (l0.length : Int) x15_1 l1 (l1.length : Int) (wrap64 (x21_2 + 1)) ((rd_T65 l0 x15_1).f0) ((rd_T65 l0 x15_1).f1) ((rd_T65 l0 x15_1).f2) ((rd_T65 l0 x15_1).f3) ((rd_T65 l0 x15_1).f4) ((rd_T65 l0 x15_1).f5) ((rd_T65 l0 x15_1).f6) ((rd_T65 l0 x15_1).f7)) = some r := by rw [if_neg (show ¬ (false = true) by decide)] at H; exact H
            clear H
            have H := H1
            clear H1
            have H' := Aside0.mk H
            clear H
            have p255 : 0 ≤ (x21_2 : Int) := of_decide_eq_true (by first | (with_reducible assumption) | assumption)
            have q255 : x21_2 < (l1.length : Int) := of_decide_eq_true (by first | (with_reducible assumption) | assumption)
            obtain ⟨ad255, e255, hx255_0⟩ := Kd.at_int HR1.out x21_2 p255 q255
            cases e255
            replace hx255_0 := (HB.out.cell (World.block_lt_of_cell? w _ hx255_0)).trans hx255_0
            replace p255 := eq_true p255
            replace q255 := eq_true q255
            have hcz13_0 : wr.cell? ⟨gb254, 0, none⟩ = some (.int .i64 ((rd_T65 l0 x15_1).f0)) := (blk_cell BK254.out 0).trans rfl
            have hcz13_1 : wr.cell? ⟨gb254, 1, none⟩ = some (.int .i64 ((rd_T65 l0 x15_1).f1)) := (blk_cell BK254.out 1).trans rfl
            have hcz13_2 : wr.cell? ⟨gb254, 2, none⟩ = some (.int .i64 ((rd_T65 l0 x15_1).f2)) := (blk_cell BK254.out 2).trans rfl
            have hcz13_3 : wr.cell? ⟨gb254, 3, none⟩ = some (.int .i64 ((rd_T65 l0 x15_1).f3)) := (blk_cell BK254.out 3).trans rfl
            have hcz13_4 : wr.cell? ⟨gb254, 4, none⟩ = some (.int .i64 ((rd_T65 l0 x15_1).f4)) := (blk_cell BK254.out 4).trans rfl
            have hcz13_5 : wr.cell? ⟨gb254, 5, none⟩ = some (.int .i64 ((rd_T65 l0 x15_1).f5)) := (blk_cell BK254.out 5).trans rfl
            have hcz13_6 : wr.cell? ⟨gb254, 6, none⟩ = some (.int .i64 ((rd_T65 l0 x15_1).f6)) := (blk_cell BK254.out 6).trans rfl
            have hcz13_7 : wr.cell? ⟨gb254, 7, none⟩ = some (.slice A253_7 ((rd_T65 l0 x15_1).f7).length c253_7) := (blk_cell BK254.out 7).trans rfl
            have hfz13_0 := blk_frozen BK254.out 0
            have hfz13_1 := blk_frozen BK254.out 1
            have hfz13_2 := blk_frozen BK254.out 2
            have hfz13_3 := blk_frozen BK254.out 3
            have hfz13_4 := blk_frozen BK254.out 4
            have hfz13_5 := blk_frozen BK254.out 5
            have hfz13_6 := blk_frozen BK254.out 6
            have hfz13_7 := blk_frozen BK254.out 7
            go_wp2
            go_roundg k2
            case measure => have := HK1.out; have := HK2.out; omega
            case rel => exact ⟨(((rd l1 x21_2) == ((rd_T65 l0 x15_1).f0))), (wrap64 (x21_2 + 1)), (by first | rfl | (simp; done) | (simp [*]; done)), (by first | rfl | (simp; done) | (simp [*]; done)), H', ⟨by have := HK1.out; have := HK2.out; omega⟩, ⟨by exact kA⟩, ⟨bA⟩⟩
          ·rw [if_neg c11] at H
           exact absurd H (by simp)
         ·rw [if_neg c10] at H
          exact absurd H (by simp)
        ·rw [if_neg c9] at H
         have c9b0 : decide (x21_2 < (l1.length : Int)) = false := decide_eq_false c9
         clear c9
         by_cases c14 : x10_2 = true
         ·subst c14
          have H1 : (if ((rd_T65 l0 x15_1).f4) = 3 then (backfillref12_Raw.j2 k2 l1 a2 x7_1 l0 (l0.length : Int) x15_1 ((rd_T65 l0 x15_1).f4) (((rd_T65 l0 x15_1).f4) == 3) ((rd_T65 l0 x15_1).f0) ((rd_T65 l0 x15_1).f1) ((rd_T65 l0 x15_1).f2) ((rd_T65 l0 x15_1).f3) ((rd_T65 l0 x15_1).f4) ((rd_T65 l0 x15_1).f5) ((rd_T65 l0 x15_1).f6) ((rd_T65 l0 x15_1).f7)) else (if ((rd_T65 l0 x15_1).f4) = 4 then (backfillref12_Raw.j2 k2 l1 a2 x7_1 l0 (l0.length : Int) x15_1 ((rd_T65 l0 x15_1).f4) (((rd_T65 l0 x15_1).f4) == 4) ((rd_T65 l0 x15_1).f0) ((rd_T65 l0 x15_1).f1) ((rd_T65 l0 x15_1).f2) ((rd_T65 l0 x15_1).f3) ((rd_T65 l0 x15_1).f4) ((rd_T65 l0 x15_1).f5) ((rd_T65 l0 x15_1).f6) ((rd_T65 l0 x15_1).f7)) else (backfillref12_Raw.j2 k2 l1 a2 x7_1 l0 (l0.length : Int) x15_1 ((rd_T65 l0 x15_1).f4) (((rd_T65 l0 x15_1).f4) == 5) ((rd_T65 l0 x15_1).f0) ((rd_T65 l0 x15_1).f1) ((rd_T65 l0 x15_1).f2) ((rd_T65 l0 x15_1).f3) ((rd_T65 l0 x15_1).f4) ((rd_T65 l0 x15_1).f5) ((rd_T65 l0 x15_1).f6) ((rd_T65 l0 x15_1).f7)))) = some r := by rw [if_pos rfl] at H; exact H
          clear H
          have H := H1
          clear H1
          have HC15 := Aside0.mk H
          clear H
          have hcz16_0 : wr.cell? ⟨gb254, 0, none⟩ = some (.int .i64 ((rd_T65 l0 x15_1).f0)) := (blk_cell BK254.out 0).trans rfl
          have hcz16_1 : wr.cell? ⟨gb254, 1, none⟩ = some (.int .i64 ((rd_T65 l0 x15_1).f1)) := (blk_cell BK254.out 1).trans rfl
          have hcz16_2 : wr.cell? ⟨gb254, 2, none⟩ = some (.int .i64 ((rd_T65 l0 x15_1).f2)) := (blk_cell BK254.out 2).trans rfl
          have hcz16_3 : wr.cell? ⟨gb254, 3, none⟩ = some (.int .i64 ((rd_T65 l0 x15_1).f3)) := (blk_cell BK254.out 3).trans rfl
          have hcz16_4 : wr.cell? ⟨gb254, 4, none⟩ = some (.int .i64 ((rd_T65 l0 x15_1).f4)) := (blk_cell BK254.out 4).trans rfl
          have hcz16_5 : wr.cell? ⟨gb254, 5, none⟩ = some (.int .i64 ((rd_T65 l0 x15_1).f5)) := (blk_cell BK254.out 5).trans rfl
          have hcz16_6 : wr.cell? ⟨gb254, 6, none⟩ = some (.int .i64 ((rd_T65 l0 x15_1).f6)) := (blk_cell BK254.out 6).trans rfl
          have hcz16_7 : wr.cell? ⟨gb254, 7, none⟩ = some (.slice A253_7 ((rd_T65 l0 x15_1).f7).length c253_7) := (blk_cell BK254.out 7).trans rfl
          have hfz16_0 := blk_frozen BK254.out 0
          have hfz16_1 := blk_frozen BK254.out 1
          have hfz16_2 := blk_frozen BK254.out 2
          have hfz16_3 := blk_frozen BK254.out 3
          have hfz16_4 := blk_frozen BK254.out 4
          have hfz16_5 := blk_frozen BK254.out 5
          have hfz16_6 := blk_frozen BK254.out 6
          have hfz16_7 := blk_frozen BK254.out 7
          go_upto_if 37 with (fail)
          go_cut [37] (fun v37 wc => ∃ (kq : Nat) (x37_14 : Bool), v37 = .bool x37_14 ∧ Aside0 (backfillref12_Raw.j2 kq l1 a2 x7_1 l0 (l0.length : Int) x15_1 ((rd_T65 l0 x15_1).f4) x37_14 ((rd_T65 l0 x15_1).f0) ((rd_T65 l0 x15_1).f1) ((rd_T65 l0 x15_1).f2) ((rd_T65 l0 x15_1).f3) ((rd_T65 l0 x15_1).f4) ((rd_T65 l0 x15_1).f5) ((rd_T65 l0 x15_1).f6) ((rd_T65 l0 x15_1).f7) = some r) ∧ Aside0 (kq ≤ k2) ∧ Aside0 (wc.heap[gb254]? = some (.cells #[.int .i64 ((rd_T65 l0 x15_1).f0), .int .i64 ((rd_T65 l0 x15_1).f1), .int .i64 ((rd_T65 l0 x15_1).f2), .int .i64 ((rd_T65 l0 x15_1).f3), .int .i64 ((rd_T65 l0 x15_1).f4), .int .i64 ((rd_T65 l0 x15_1).f5), .int .i64 ((rd_T65 l0 x15_1).f6), (.slice A253_7 ((rd_T65 l0 x15_1).f7).length c253_7)] 65 (0, 0))) ∧ Aside0 (Below w.heap.size w wc))
          case first =>
           have H := HC15.out
           clear HC15
           by_cases c17 : ((rd_T65 l0 x15_1).f4) = 3
           ·rw [if_pos c17] at H
            have c17b0 : (((rd_T65 l0 x15_1).f4) == 3) = true := beq_iff_eq.mpr c17
            have c17b1 : (((rd_T65 l0 x15_1).f4) != 3) = false := bne_eq_false_iff_eq.mpr c17
            clear c17
            (first | rw [c17b0] | (simp only [i64_w, i32_w]; rw [c17b0]) | skip)
            have H' := Aside0.mk H
            clear H
            go_wp2
            go_meet
            case rel => exact ⟨_, ((((rd_T65 l0 x15_1).f4) == 3)), (by first | rfl | (simp; done) | (simp [*]; done)), H', ⟨by have := HK1.out; have := HK2.out; first | omega | exact Nat.le_refl _⟩, ⟨by exact kA⟩, ⟨bA⟩⟩
           ·rw [if_neg c17] at H
            have c17b0 : (((rd_T65 l0 x15_1).f4) == 3) = false := beq_eq_false_iff_ne.mpr c17
            have c17b1 : (((rd_T65 l0 x15_1).f4) != 3) = true := bne_iff_ne.mpr c17
            (first | rw [c17b0] | (simp only [i64_w, i32_w]; rw [c17b0]) | skip)
            by_cases c18 : ((rd_T65 l0 x15_1).f4) = 4
            ·rw [if_pos c18] at H
             have c18b0 : (((rd_T65 l0 x15_1).f4) == 4) = true := beq_iff_eq.mpr c18
             have c18b1 : (((rd_T65 l0 x15_1).f4) != 4) = false := bne_eq_false_iff_eq.mpr c18
             clear c18
             have H' := Aside0.mk H
             clear H
             go_wp2
             go_meet
             case rel => exact ⟨_, ((((rd_T65 l0 x15_1).f4) == 4)), (by first | rfl | (simp; done) | (simp [*]; done)), H', ⟨by have := HK1.out; have := HK2.out; first | omega | exact Nat.le_refl _⟩, ⟨by exact kA⟩, ⟨bA⟩⟩
            ·rw [if_neg c18] at H
             have c18b0 : (((rd_T65 l0 x15_1).f4) == 4) = false := beq_eq_false_iff_ne.mpr c18
             have c18b1 : (((rd_T65 l0 x15_1).f4) != 4) = true := bne_iff_ne.mpr c18
             have H' := Aside0.mk H
             clear H
             go_wp2
             go_meet
             case rel => exact ⟨_, ((((rd_T65 l0 x15_1).f4) == 5)), (by first | rfl | (simp; done) | (simp [*]; done)), H', ⟨by have := HK1.out; have := HK2.out; first | omega | exact Nat.le_refl _⟩, ⟨by exact kA⟩, ⟨bA⟩⟩
          case rest =>
           clear HC15
           try clear c1
           try clear c2
           try clear p2
           try clear q2
           try clear hx2
           try clear c4
           try clear c4b0
           try clear c5
           try clear c5b0
           try clear c6
           try clear c6b0
           try clear p6
           try clear c9
           try clear c9b0
           try clear c10
           try clear c10b0
           try clear c11
           try clear c11b0
           try clear c12
           try clear c14
           try clear c17
           try clear c17b0
           try clear c17b1
           try clear c18
           try clear c18b0
           try clear c18b1
           try clear hcz13_0
           try clear hcz13_1
           try clear hcz13_2
           try clear hcz13_3
           try clear hcz13_4
           try clear hcz13_5
           try clear hcz13_6
           try clear hcz13_7
           try clear hcz16_0
           try clear hcz16_1
           try clear hcz16_2
           try clear hcz16_3
           try clear hcz16_4
           try clear hcz16_5
           try clear hcz16_6
           try clear hcz16_7
           try clear hcz8_0
           try clear hcz8_1
           try clear hcz8_2
           try clear hcz8_3
           try clear hcz8_4
           try clear hcz8_5
           try clear hcz8_6
           try clear hcz8_7
           try clear hfz13_0
           try clear hfz13_1
           try clear hfz13_2
           try clear hfz13_3
           try clear hfz13_4
           try clear hfz13_5
           try clear hfz13_6
           try clear hfz13_7
           try clear hfz16_0
           try clear hfz16_1
           try clear hfz16_2
           try clear hfz16_3
           try clear hfz16_4
           try clear hfz16_5
           try clear hfz16_6
           try clear hfz16_7
           try clear hfz8_0
           try clear hfz8_1
           try clear hfz8_2
           try clear hfz8_3
           try clear hfz8_4
           try clear hfz8_5
           try clear hfz8_6
           try clear hfz8_7
           try clear hx253_0
           try clear hx253_1
           try clear hx253_2
           try clear hx253_3
           try clear hx253_4
           try clear hx253_5
           try clear hx253_6
           try clear hx253_7
           try clear hx255_0
           try clear p2
           try clear p253
           try clear p255
           try clear q2
           try clear q253
           try clear q255
           obtain ⟨kq, x37_14, rfl, HA, HJ14, BK254, HB⟩ := hcut
           cases kq with
           | zero => exact absurd HA.out (by simp [backfillref12_Raw.j2])
           | succ kj14 =>
            have H := HA.out
            clear HA
            simp only [backfillref12_Raw.j2] at H
            by_cases c19 : x37_14 = true
            ·subst c19
             have H1 : (backfillref12_Raw.l0 kj14 l1 a2 (wrap64 (x7_1 + (wrap64 (((rd_T65 l0 x15_1).f1) * (wrap64 (((rd_T65 l0 x15_1).f6) - ((rd_T65 l0 x15_1).f5))))))) l0 (l0.length : Int) (wrap64 (x15_1 + 1))) = some r := by rw [if_pos rfl] at H; exact H
             clear H
             have H := H1
             clear H1
             have H' := Aside0.mk H
             clear H
             have hcz20_0 : wc.cell? ⟨gb254, 0, none⟩ = some (.int .i64 ((rd_T65 l0 x15_1).f0)) := (blk_cell BK254.out 0).trans rfl
             have hcz20_1 : wc.cell? ⟨gb254, 1, none⟩ = some (.int .i64 ((rd_T65 l0 x15_1).f1)) := (blk_cell BK254.out 1).trans rfl
             have hcz20_2 : wc.cell? ⟨gb254, 2, none⟩ = some (.int .i64 ((rd_T65 l0 x15_1).f2)) := (blk_cell BK254.out 2).trans rfl
             have hcz20_3 : wc.cell? ⟨gb254, 3, none⟩ = some (.int .i64 ((rd_T65 l0 x15_1).f3)) := (blk_cell BK254.out 3).trans rfl
             have hcz20_4 : wc.cell? ⟨gb254, 4, none⟩ = some (.int .i64 ((rd_T65 l0 x15_1).f4)) := (blk_cell BK254.out 4).trans rfl
             have hcz20_5 : wc.cell? ⟨gb254, 5, none⟩ = some (.int .i64 ((rd_T65 l0 x15_1).f5)) := (blk_cell BK254.out 5).trans rfl
             have hcz20_6 : wc.cell? ⟨gb254, 6, none⟩ = some (.int .i64 ((rd_T65 l0 x15_1).f6)) := (blk_cell BK254.out 6).trans rfl
             have hcz20_7 : wc.cell? ⟨gb254, 7, none⟩ = some (.slice A253_7 ((rd_T65 l0 x15_1).f7).length c253_7) := (blk_cell BK254.out 7).trans rfl
             have hfz20_0 := blk_frozen BK254.out 0
             have hfz20_1 := blk_frozen BK254.out 1
             have hfz20_2 := blk_frozen BK254.out 2
             have hfz20_3 := blk_frozen BK254.out 3
             have hfz20_4 := blk_frozen BK254.out 4
             have hfz20_5 := blk_frozen BK254.out 5
             have hfz20_6 := blk_frozen BK254.out 6
             have hfz20_7 := blk_frozen BK254.out 7
             go_wp2
             go_roundg kj14
             case measure => have := HK1.out; have := HK2.out; have := HJ14.out; omega
             case rel => exact ⟨(wrap64 (x7_1 + (wrap64 (((rd_T65 l0 x15_1).f1) * (wrap64 (((rd_T65 l0 x15_1).f6) - ((rd_T65 l0 x15_1).f5))))))), (wrap64 (x15_1 + 1)), (by first | rfl | (simp; done) | (simp [*]; done)), (by first | rfl | (simp; done) | (simp [*]; done)), H', ⟨by have := HK1.out; have := HK2.out; have := HJ14.out; omega⟩, ⟨bA⟩⟩
            ·replace c19 := Bool.eq_false_iff.mpr c19
             subst c19
             have H1 : (if ((rd_T65 l0 x15_1).f4) = 2 then (backfillref12_Raw.l0 kj14 l1 a2 (wrap64 (x7_1 + (wrap64 (((rd_T65 l0 x15_1).f1) * (wrap64 (a2 - ((rd_T65 l0 x15_1).f5))))))) l0 (l0.length : Int) (wrap64 (x15_1 + 1))) else (backfillref12_Raw.l0 kj14 l1 a2 x7_1 l0 (l0.length : Int) (wrap64 (x15_1 + 1)))) = some r := by rw [if_neg (show ¬ (false = true) by decide)] at H; exact H
             clear H
             have H := H1
             clear H1
             by_cases c21 : ((rd_T65 l0 x15_1).f4) = 2
             ·rw [if_pos c21] at H
              have c21b0 : (((rd_T65 l0 x15_1).f4) == 2) = true := beq_iff_eq.mpr c21
              have c21b1 : (((rd_T65 l0 x15_1).f4) != 2) = false := bne_eq_false_iff_eq.mpr c21
              clear c21
              have H' := Aside0.mk H
              clear H
              have hcz22_0 : wc.cell? ⟨gb254, 0, none⟩ = some (.int .i64 ((rd_T65 l0 x15_1).f0)) := (blk_cell BK254.out 0).trans rfl
              have hcz22_1 : wc.cell? ⟨gb254, 1, none⟩ = some (.int .i64 ((rd_T65 l0 x15_1).f1)) := (blk_cell BK254.out 1).trans rfl
              have hcz22_2 : wc.cell? ⟨gb254, 2, none⟩ = some (.int .i64 ((rd_T65 l0 x15_1).f2)) := (blk_cell BK254.out 2).trans rfl
              have hcz22_3 : wc.cell? ⟨gb254, 3, none⟩ = some (.int .i64 ((rd_T65 l0 x15_1).f3)) := (blk_cell BK254.out 3).trans rfl
              have hcz22_4 : wc.cell? ⟨gb254, 4, none⟩ = some (.int .i64 ((rd_T65 l0 x15_1).f4)) := (blk_cell BK254.out 4).trans rfl
              have hcz22_5 : wc.cell? ⟨gb254, 5, none⟩ = some (.int .i64 ((rd_T65 l0 x15_1).f5)) := (blk_cell BK254.out 5).trans rfl
              have hcz22_6 : wc.cell? ⟨gb254, 6, none⟩ = some (.int .i64 ((rd_T65 l0 x15_1).f6)) := (blk_cell BK254.out 6).trans rfl
              have hcz22_7 : wc.cell? ⟨gb254, 7, none⟩ = some (.slice A253_7 ((rd_T65 l0 x15_1).f7).length c253_7) := (blk_cell BK254.out 7).trans rfl
              have hfz22_0 := blk_frozen BK254.out 0
              have hfz22_1 := blk_frozen BK254.out 1
              have hfz22_2 := blk_frozen BK254.out 2
              have hfz22_3 := blk_frozen BK254.out 3
              have hfz22_4 := blk_frozen BK254.out 4
              have hfz22_5 := blk_frozen BK254.out 5
              have hfz22_6 := blk_frozen BK254.out 6
              have hfz22_7 := blk_frozen BK254.out 7
              go_wp2
              go_roundg kj14
              case measure => have := HK1.out; have := HK2.out; have := HJ14.out; omega
              case rel => exact ⟨(wrap64 (x7_1 + (wrap64 (((rd_T65 l0 x15_1).f1) * (wrap64 (a2 - ((rd_T65 l0 x15_1).f5))))))), (wrap64 (x15_1 + 1)), (by first | rfl | (simp; done) | (simp [*]; done)), (by first | rfl | (simp; done) | (simp [*]; done)), H', ⟨by have := HK1.out; have := HK2.out; have := HJ14.out; omega⟩, ⟨bA⟩⟩
             ·rw [if_neg c21] at H
              have c21b0 : (((rd_T65 l0 x15_1).f4) == 2) = false := beq_eq_false_iff_ne.mpr c21
              have c21b1 : (((rd_T65 l0 x15_1).f4) != 2) = true := bne_iff_ne.mpr c21
              have H' := Aside0.mk H
              clear H
              go_wp2
              go_roundg kj14
              case measure => have := HK1.out; have := HK2.out; have := HJ14.out; omega
              case rel => exact ⟨(x7_1), (wrap64 (x15_1 + 1)), (by first | rfl | (simp; done) | (simp [*]; done)), (by first | rfl | (simp; done) | (simp [*]; done)), H', ⟨by have := HK1.out; have := HK2.out; have := HJ14.out; omega⟩, ⟨bA⟩⟩
         ·replace c14 := Bool.eq_false_iff.mpr c14
          subst c14
          have H1 : (backfillref12_Raw.l0 k2 l1 a2 x7_1 l0 (l0.length : Int) (wrap64 (x15_1 + 1))) = some r := by rw [if_neg (show ¬ (false = true) by decide)] at H; exact H
          clear H
          have H := H1
          clear H1
          have H' := Aside0.mk H
          clear H
          go_wp2
          go_roundg k2
          case measure => have := HK1.out; have := HK2.out; omega
          case rel => exact ⟨(x7_1), (wrap64 (x15_1 + 1)), (by first | rfl | (simp; done) | (simp [*]; done)), (by first | rfl | (simp; done) | (simp [*]; done)), H', ⟨by have := HK1.out; have := HK2.out; omega⟩, ⟨bA⟩⟩
     ·rw [if_neg c6] at H
      exact absurd H (by simp)
    ·rw [if_neg c5] at H
     exact absurd H (by simp)
   ·rw [if_neg c4] at H
    have c4b0 : decide (x15_1 < (l0.length : Int)) = false := decide_eq_false c4
    clear c4
    obtain rfl := Option.some.inj H
    go_wp2
    go_ret
    exact ⟨by first | rfl | (simp [errW_none, errW_some] <;> rfl) | (simp [*, errW_none, errW_some] <;> rfl), bA⟩

-- NOT PRINTED: function 6 (backfilllaw12_LedgerRaw)

/-! ### backfillref11_within: function 74 -/
def backfillref11_within.f (a0 : Int) (a1 : Int) (a2 : Int) : Option (Bool) := if a0 ≥ a1 then (some (decide (a0 ≤ a2))) else (some false)
set_option maxHeartbeats 8000000 in
set_option maxRecDepth 100000 in
theorem backfillref11_within.calls (a0 : Int) (a1 : Int) (a2 : Int) (r : Bool) (w : World) (h : backfillref11_within.f a0 a1 a2 = some r) :
  Calls Tryd.prog 74 #[.int .i64 a0, .int .i64 a1, .int .i64 a2] w fun e w' => e = .returned (.bool r) ∧ Drawn0 w w' := by
 have H : (if a0 ≥ a1 then (some (decide (a0 ≤ a2))) else (some false)) = some r := h
 clear h
 by_cases c4 : a0 ≥ a1
 ·rw [if_pos c4] at H
  have c4b0 : decide (a1 ≤ a0) = true := decide_eq_true c4
  clear c4
  obtain rfl := Option.some.inj H
  go_enter Tryd.func74, Tryd.ntmps74
  go_wp2
  go_ret
  exact ⟨by first | rfl | (simp; done) | (simp [*]; done), by repeat (first | exact Drawn0.refl _ | apply Drawn0.step)⟩
 ·rw [if_neg c4] at H
  have c4b0 : decide (a1 ≤ a0) = false := decide_eq_false c4
  clear c4
  obtain rfl := Option.some.inj H
  go_enter Tryd.func74, Tryd.ntmps74
  go_wp2
  go_ret
  exact ⟨by first | rfl | (simp; done) | (simp [*]; done), by repeat (first | exact Drawn0.refl _ | apply Drawn0.step)⟩

end Go.Proofs.YtgjjfnjnjnbfgaaDoor.GLG
