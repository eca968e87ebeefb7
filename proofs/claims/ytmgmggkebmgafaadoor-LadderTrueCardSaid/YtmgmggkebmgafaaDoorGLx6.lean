-- Laid by a program of this session (wip/tools/pr.py): contracts and pure functions; Lean checks it.
import Derived.Test.YtmgmggkebmgafaaDoorGLx0
import Derived.Test.YtmgmggkebmgafaaDoorGLx2
import Derived.Test.YtmgmggkebmgafaaDoorGLx4
import Derived.Test.YtmgmggkebmgafaaDoorGLx5
namespace Go.Proofs.YtmgmggkebmgafaaDoor.GL
open Go.RowKit Go.Proofs.YtmgmggkebmgafaaDoorW.PrintWords Go.Proofs.YtmgmggkebmgafaaDoorW.PrintLast Go.Proofs.YtmgmggkebmgafaaDoorW.PrintMore
attribute [local go_sem] max2_int min2_int max_two min_two max_three min_three max_four min_four   -- for this text's walks alone
set_option linter.unusedVariables false
set_option linter.unusedSimpArgs false

/-! ### backfilllaw07_LadderTrue: function 6 -/
mutual
def backfilllaw07_LadderTrue.j0 : Nat → Bool → Int → Int → Int → Bool → Option (Bool)
  | 0, _, _, _, _, _ => none
  | k + 1, x3, x4, x5, x6, x31 => if x31 = true then (some false) else ((backfilllaw07_normal.f k x5).bind fun bt181 => ((backfilllaw07_normal.f k x6).bind fun bt184 => (backfilllaw07_LadderTrue.l0 k x3 x4 0 bt181.1 bt181.2 bt184.1 bt184.2)))
def backfilllaw07_LadderTrue.l0 : Nat → Bool → Int → Int → Int → Int → Int → Int → Option (Bool)
  | 0, _, _, _, _, _, _, _ => none
  | k + 1, x3, x4, x9, x184000, x184001, x187000, x187001 => if x9 < 32 then ((backfilllaw07_squared.f k x184000 x184001 false).bind fun bt187 => ((backfilllaw07_squared.f k x187000 x187001 true).bind fun bt189 => (backfilllaw07_LadderTrue.l0 k x3 x4 (wrap64 (x9 + 1)) bt187.1 bt187.2 bt189.1 bt189.2))) else (if x184001 < (wrap64 ((-63) - (wrap64 (x4)))) then (if x187001 > (wrap64 ((-63) - (wrap64 (x4)))) then (if x3 = true then (some true) else (some false)) else (if x187001 = (wrap64 ((-63) - (wrap64 (x4)))) then (if x3 = true then (some (decide (x187000 ≥ 9223372036854775808))) else (some false)) else (if x3 = true then (some false) else (some false)))) else (if x184001 = (wrap64 ((-63) - (wrap64 (x4)))) then (if x187001 > (wrap64 ((-63) - (wrap64 (x4)))) then (if x3 = true then (if x184000 ≤ 9223372036854775808 then (some true) else (some false)) else (some false)) else (if x187001 = (wrap64 ((-63) - (wrap64 (x4)))) then (if x3 = true then (if x184000 ≤ 9223372036854775808 then (some (decide (x187000 ≥ 9223372036854775808))) else (some false)) else (some false)) else (if x3 = true then (if x184000 ≤ 9223372036854775808 then (some false) else (some false)) else (some false)))) else (if x187001 > (wrap64 ((-63) - (wrap64 (x4)))) then (if x3 = true then (some false) else (some false)) else (if x187001 = (wrap64 ((-63) - (wrap64 (x4)))) then (if x3 = true then (some false) else (some false)) else (if x3 = true then (some false) else (some false))))))
end
def backfilllaw07_LadderTrue.f (k : Nat) (a0 : Int) : Option (Bool) := (backfilllaw07_shown.f).bind fun t178 => ((ladder_Bounds.f (Int.tmod a0 4294967296)).bind fun bt179 => (if bt179.1 < 2305843009213693952 then (backfilllaw07_LadderTrue.j0 k t178 (Int.tmod a0 4294967296) bt179.1 bt179.2 true) else (if bt179.2 > 9223372036854775808 then (backfilllaw07_LadderTrue.j0 k t178 (Int.tmod a0 4294967296) bt179.1 bt179.2 true) else (backfilllaw07_LadderTrue.j0 k t178 (Int.tmod a0 4294967296) bt179.1 bt179.2 (decide (bt179.1 > bt179.2))))))
theorem backfilllaw07_LadderTrue.mono_l : ∀ k, (∀ y0 y1 y2 y3 y4, LeO (backfilllaw07_LadderTrue.j0 k y0 y1 y2 y3 y4) (backfilllaw07_LadderTrue.j0 (k + 1) y0 y1 y2 y3 y4)) ∧ (∀ y0 y1 y2 y3 y4 y5 y6, LeO (backfilllaw07_LadderTrue.l0 k y0 y1 y2 y3 y4 y5 y6) (backfilllaw07_LadderTrue.l0 (k + 1) y0 y1 y2 y3 y4 y5 y6))
  | 0 => ⟨fun _ _ _ _ _ r h => by simp [backfilllaw07_LadderTrue.j0] at h, fun _ _ _ _ _ _ _ r h => by simp [backfilllaw07_LadderTrue.l0] at h⟩
  | k + 1 => by
    obtain ⟨ih0, ih1⟩ := backfilllaw07_LadderTrue.mono_l k
    refine ⟨?_, ?_⟩
    · intro y0 y1 y2 y3 y4
      unfold backfilllaw07_LadderTrue.j0
      repeat' first
      | (with_reducible exact ih0 _ _ _ _ _)
      | (with_reducible exact ih1 _ _ _ _ _ _ _)
      | (with_reducible exact backfilllaw07_normal.mono _ _)
      | (with_reducible exact backfilllaw07_squared.mono _ _ _ _)
      | (with_reducible exact LeO.refl _)
      | (with_reducible exact LeO.none _)
      | (with_reducible refine LeO.ite ?_ ?_)
      | (with_reducible refine LeO.bind ?_ (fun _ => ?_))
      | exact ih0 _ _ _ _ _
      | exact ih1 _ _ _ _ _ _ _
      | exact backfilllaw07_normal.mono _ _
      | exact backfilllaw07_squared.mono _ _ _ _
      | exact LeO.none _
      | refine LeO.ite ?_ ?_
      | refine LeO.bind ?_ (fun _ => ?_)
    · intro y0 y1 y2 y3 y4 y5 y6
      unfold backfilllaw07_LadderTrue.l0
      repeat' first
      | (with_reducible exact ih0 _ _ _ _ _)
      | (with_reducible exact ih1 _ _ _ _ _ _ _)
      | (with_reducible exact backfilllaw07_normal.mono _ _)
      | (with_reducible exact backfilllaw07_squared.mono _ _ _ _)
      | (with_reducible exact LeO.refl _)
      | (with_reducible exact LeO.none _)
      | (with_reducible refine LeO.ite ?_ ?_)
      | (with_reducible refine LeO.bind ?_ (fun _ => ?_))
      | exact ih0 _ _ _ _ _
      | exact ih1 _ _ _ _ _ _ _
      | exact backfilllaw07_normal.mono _ _
      | exact backfilllaw07_squared.mono _ _ _ _
      | exact LeO.none _
      | refine LeO.ite ?_ ?_
      | refine LeO.bind ?_ (fun _ => ?_)
theorem backfilllaw07_LadderTrue.mono : ∀ a0 k, LeO (backfilllaw07_LadderTrue.f k a0) (backfilllaw07_LadderTrue.f (k + 1) a0) := by
  intro a0 k
  obtain ⟨ih0, ih1⟩ := backfilllaw07_LadderTrue.mono_l k
  unfold backfilllaw07_LadderTrue.f
  repeat' first
      | (with_reducible exact ih0 _ _ _ _ _)
      | (with_reducible exact ih1 _ _ _ _ _ _ _)
      | (with_reducible exact backfilllaw07_normal.mono _ _)
      | (with_reducible exact backfilllaw07_squared.mono _ _ _ _)
      | (with_reducible exact LeO.refl _)
      | (with_reducible exact LeO.none _)
      | (with_reducible refine LeO.ite ?_ ?_)
      | (with_reducible refine LeO.bind ?_ (fun _ => ?_))
      | exact ih0 _ _ _ _ _
      | exact ih1 _ _ _ _ _ _ _
      | exact backfilllaw07_normal.mono _ _
      | exact backfilllaw07_squared.mono _ _ _ _
      | exact LeO.none _
      | refine LeO.ite ?_ ?_
      | refine LeO.bind ?_ (fun _ => ?_)
set_option maxHeartbeats 8000000 in
set_option maxRecDepth 100000 in
theorem backfilllaw07_LadderTrue.calls (k : Nat) (a0 : Int) (r : Bool) (w : World) (hL : LaidW w) (h : backfilllaw07_LadderTrue.f k a0 = some r) :
    Calls Tryd.prog 6 #[.int .u64 a0] w fun e w' => e = .returned (.bool r) ∧ Below w.heap.size w w' := by
  have hu37 := Tryd.underlying37
  have HB := Aside0.mk (Below.refl w.heap.size w)
  have H : ((backfilllaw07_shown.f).bind fun t178 => ((ladder_Bounds.f (Int.tmod a0 4294967296)).bind fun bt179 => (if bt179.1 < 2305843009213693952 then (backfilllaw07_LadderTrue.j0 k t178 (Int.tmod a0 4294967296) bt179.1 bt179.2 true) else (if bt179.2 > 9223372036854775808 then (backfilllaw07_LadderTrue.j0 k t178 (Int.tmod a0 4294967296) bt179.1 bt179.2 true) else (backfilllaw07_LadderTrue.j0 k t178 (Int.tmod a0 4294967296) bt179.1 bt179.2 (decide (bt179.1 > bt179.2))))))) = some r := h
  clear h
  replace H := Option.bind_eq_some_iff.mp H
  obtain ⟨t178, A20, H⟩ := H
  replace H : ((ladder_Bounds.f (Int.tmod a0 4294967296)).bind fun bt179 => (if bt179.1 < 2305843009213693952 then (backfilllaw07_LadderTrue.j0 k t178 (Int.tmod a0 4294967296) bt179.1 bt179.2 true) else (if bt179.2 > 9223372036854775808 then (backfilllaw07_LadderTrue.j0 k t178 (Int.tmod a0 4294967296) bt179.1 bt179.2 true) else (backfilllaw07_LadderTrue.j0 k t178 (Int.tmod a0 4294967296) bt179.1 bt179.2 (decide (bt179.1 > bt179.2)))))) = some r := H
  have A2 := Aside0.mk A20
  clear A20
  replace H := Option.bind_eq_some_iff.mp H
  obtain ⟨⟨t179, t180⟩, A30, H⟩ := H
  replace H : (if t179 < 2305843009213693952 then (backfilllaw07_LadderTrue.j0 k t178 (Int.tmod a0 4294967296) t179 t180 true) else (if t180 > 9223372036854775808 then (backfilllaw07_LadderTrue.j0 k t178 (Int.tmod a0 4294967296) t179 t180 true) else (backfilllaw07_LadderTrue.j0 k t178 (Int.tmod a0 4294967296) t179 t180 (decide (t179 > t180))))) = some r := H
  have A3 := Aside0.mk A30
  clear A30
  have HC4 := Aside0.mk H
  clear H
  go_enter Tryd.func6, Tryd.ntmps6
  go_upto_region 4 with (first | ((with_reducible refine gate_callee (f := 12) rfl ?_); refine goesL_ (some 13) rfl rfl Tryd.func12 (by kernel_rfl) rfl #[] rfl aA ?_; (with_reducible refine (backfilllaw07_shown.calls  t178 _ ?side1 A2.out).mono ?_); (case side1 => exact laid_below hL bA); rintro e w5 ⟨rfl, hb⟩; refine ⟨_, rfl, ?_⟩; have n0_ := Aside0.mk (below_step bA hb); clear HB; have HB := n0_; clear n0_; (try clear hb); (try clear hb2); (try clear hk); (try clear hi)) | ((with_reducible refine gate_callee (f := 17) rfl ?_); refine goesL_ (some 18) rfl rfl Tryd.func17 (by kernel_rfl) rfl #[.int .u64 (Int.tmod a0 4294967296)] rfl aA ?_; (with_reducible refine (ladder_Bounds.calls (Int.tmod a0 4294967296) t179 t180 _ ?side1 A3.out).mono ?_); (case side1 => exact laid_below hL bA); rintro e w6 ⟨rfl, hb⟩; refine ⟨_, rfl, ?_⟩; have n0_ := Aside0.mk (below_step bA hb); clear HB; have HB := n0_; clear n0_; (try clear hb); (try clear hb2); (try clear hk); (try clear hi)))
  (try simp only [Act.put, List.setIfInBounds_toArray, List.set_cons_zero, List.set_cons_succ])
  go_cut [31] (fun v31 wc => ∃ (kq : Nat) (x31_3 : Bool), v31 = .bool x31_3 ∧ Aside0 (backfilllaw07_LadderTrue.j0 kq t178 (Int.tmod a0 4294967296) t179 t180 x31_3 = some r) ∧ Aside0 (kq ≤ k) ∧ Aside0 (Below w.heap.size w wc))
  case first =>
    have H := HC4.out
    clear HC4
    by_cases c7 : t179 < 2305843009213693952
    · rw [if_pos c7] at H
      have c7b0 : decide (t179 < 2305843009213693952) = true := decide_eq_true c7
      clear c7
      (first | rw [c7b0] | (simp only [i64_w, i32_w]; rw [c7b0]) | skip)
      have H' := Aside0.mk H
      clear H
      go_wp2
      go_meet
      case rel => exact ⟨_, (true), (by first | rfl | (simp; done) | (simp [*]; done)), H', ⟨by first | omega | exact Nat.le_refl _⟩, ⟨bA⟩⟩
    · rw [if_neg c7] at H
      have c7b0 : decide (t179 < 2305843009213693952) = false := decide_eq_false c7
      clear c7
      (first | rw [c7b0] | (simp only [i64_w, i32_w]; rw [c7b0]) | skip)
      by_cases c8 : t180 > 9223372036854775808
      · rw [if_pos c8] at H
        have c8b0 : decide (9223372036854775808 < t180) = true := decide_eq_true c8
        clear c8
        have H' := Aside0.mk H
        clear H
        go_wp2
        go_meet
        case rel => exact ⟨_, (true), (by first | rfl | (simp; done) | (simp [*]; done)), H', ⟨by first | omega | exact Nat.le_refl _⟩, ⟨bA⟩⟩
      · rw [if_neg c8] at H
        have c8b0 : decide (9223372036854775808 < t180) = false := decide_eq_false c8
        clear c8
        have H' := Aside0.mk H
        clear H
        go_wp2
        go_meet
        case rel => exact ⟨_, (decide (t179 > t180)), (by first | rfl | (simp; done) | (simp [*]; done)), H', ⟨by first | omega | exact Nat.le_refl _⟩, ⟨bA⟩⟩
  case rest =>
    clear HC4
    try clear c1
    try clear p2
    try clear c6
    try clear c7
    try clear c7b0
    try clear c8
    try clear c8b0
    obtain ⟨kq, x31_3, rfl, HA, HJ3, HB⟩ := hcut
    cases kq with
    | zero => exact absurd HA.out (by simp [backfilllaw07_LadderTrue.j0])
    | succ kj3 =>
      have H := HA.out
      clear HA
      simp only [backfilllaw07_LadderTrue.j0] at H
      by_cases c9 : x31_3 = true
      · subst c9
        have H1 : (some false) = some r := by rw [if_pos rfl] at H; exact H
        clear H
        have H := H1
        clear H1
        obtain rfl := Option.some.inj H
        go_wp2
        go_ret
        exact ⟨by first | rfl | (simp [errW_none, errW_some] <;> rfl) | (simp [*, errW_none, errW_some] <;> rfl), bA⟩
      · replace c9 := Bool.eq_false_iff.mpr c9
        subst c9
        have H1 : ((backfilllaw07_normal.f kj3 t179).bind fun bt181 => ((backfilllaw07_normal.f kj3 t180).bind fun bt184 => (backfilllaw07_LadderTrue.l0 kj3 t178 (Int.tmod a0 4294967296) 0 bt181.1 bt181.2 bt184.1 bt184.2))) = some r := by rw [if_neg (show ¬ (false = true) by decide)] at H; exact H
        clear H
        have H := H1
        clear H1
        replace H := Option.bind_eq_some_iff.mp H
        obtain ⟨⟨t181, t182⟩, A100, H⟩ := H
        replace H : ((backfilllaw07_normal.f kj3 t180).bind fun bt184 => (backfilllaw07_LadderTrue.l0 kj3 t178 (Int.tmod a0 4294967296) 0 t181 t182 bt184.1 bt184.2)) = some r := H
        have A10 := Aside0.mk A100
        clear A100
        replace H := Option.bind_eq_some_iff.mp H
        obtain ⟨⟨t184, t185⟩, A110, H⟩ := H
        replace H : (backfilllaw07_LadderTrue.l0 kj3 t178 (Int.tmod a0 4294967296) 0 t181 t182 t184 t185) = some r := H
        have A11 := Aside0.mk A110
        clear A110
        have H' := Aside0.mk H
        clear H
        go_wp2_with (first | ((with_reducible refine gate_callee (f := 21) rfl ?_); refine goesL_ (some 33) rfl rfl Tryd.func21 (by kernel_rfl) rfl #[.int .u64 t179] rfl aA ?_; (with_reducible refine (backfilllaw07_normal.calls kj3 t179 t181 t182 _ A10.out).mono ?_); rintro e w12 ⟨rfl, hb⟩; refine ⟨_, rfl, ?_⟩; have n0_ := Aside0.mk (below_step bA hb); clear HB; have HB := n0_; clear n0_; (try clear hb); (try clear hb2); (try clear hk); (try clear hi)) | ((with_reducible refine gate_dst (N := 7) rfl ?_); refine box_event ?hg (N := 7) ?hd (cs := #[.int .u64 0, .int .i64 0]) (t := 37) ?hr ?_; (case hd => rfl); (case hg => rfl); (case hr => first | (go_simp; done) | (go_simp; rfl)); intro gb183 hg w13 hbox hb; have n0_ := Aside0.mk (below_step bA hb); have n1_ := Aside0.mk (hbox); have n2_ := Aside0.mk ((by rw [hg]; exact (below_size bA) : w.heap.size ≤ gb183)); have n3_ := Aside0.mk ((by rw [hg]; exact (below_size bA) : w.heap.size ≤ gb183)); clear HB; have HB := n0_; have BK183 := n1_; have GW183 := n2_; have GE183 := n3_; clear n0_ n1_ n2_ n3_; clear hb hbox hg; have hcz14_0 : w13.cell? ⟨gb183, 0, none⟩ = some (.int .u64 0) := (blk_cell BK183.out 0).trans rfl; have hcz14_1 : w13.cell? ⟨gb183, 1, none⟩ = some (.int .i64 0) := (blk_cell BK183.out 1).trans rfl; have hfz14_0 := blk_frozen BK183.out 0; have hfz14_1 := blk_frozen BK183.out 1) | ((with_reducible refine gate_callee (f := 21) rfl ?_); refine goesL_ (some 35) rfl rfl Tryd.func21 (by kernel_rfl) rfl #[.int .u64 t180] rfl aA ?_; (with_reducible refine (backfilllaw07_normal.calls kj3 t180 t184 t185 _ A11.out).mono ?_); rintro e w15 ⟨rfl, hb⟩; refine ⟨_, rfl, ?_⟩; have n0_ := Aside0.mk (blk_below (g := gb183) (o := .cells #[.int .u64 t181, .int .i64 t182] 37 (0, 0)) (by (with_reducible repeat (first | refine blk_drewN ?_ _ | refine blk_drew ?_ | refine blk_alloc ?_ _)); refine blk_put (cs := #[.int .u64 t181, .int .i64 0]) ?_ 1 _ rfl; (with_reducible repeat (first | refine blk_drewN ?_ _ | refine blk_drew ?_ | refine blk_alloc ?_ _)); refine blk_put (cs := #[.int .u64 0, .int .i64 0]) ?_ 0 _ rfl; (with_reducible repeat (first | refine blk_drewN ?_ _ | refine blk_drew ?_ | refine blk_alloc ?_ _)); exact BK183.out) hb); have n1_ := Aside0.mk (below_step (by repeat (first | (with_reducible first | exact HB.out | apply below_alloc | apply pw_below_drewN | apply below_drew1 | refine below_set ?_ GE183.out) | exact HB.out)) hb); clear BK183; clear HB; have BK183 := n0_; have HB := n1_; clear n0_ n1_; (try clear hb); (try clear hb2); (try clear hk); (try clear hi)) | ((with_reducible refine gate_dst (N := 8) rfl ?_); refine box_event ?hg (N := 8) ?hd (cs := #[.int .u64 0, .int .i64 0]) (t := 37) ?hr ?_; (case hd => rfl); (case hg => rfl); (case hr => first | (go_simp; done) | (go_simp; rfl)); intro gb186 hg w16 hbox hb; have n0_ := Aside0.mk (blk_below (g := gb183) (o := .cells #[.int .u64 t181, .int .i64 t182] 37 (0, 0)) (by (with_reducible repeat (first | refine blk_drewN ?_ _ | refine blk_drew ?_ | refine blk_alloc ?_ _)); exact BK183.out) hb); have n1_ := Aside0.mk (below_step (by repeat (first | (with_reducible first | exact HB.out | apply below_alloc | apply pw_below_drewN | apply below_drew1 | refine below_set ?_ GE183.out) | exact HB.out)) hb); have n2_ := Aside0.mk (hbox); have n3_ := Aside0.mk ((by rw [hg]; exact (below_size (by repeat (first | (with_reducible first | exact HB.out | apply below_alloc | apply pw_below_drewN | apply below_drew1 | refine below_set ?_ GE183.out) | exact HB.out))) : w.heap.size ≤ gb186)); have n4_ := Aside0.mk ((by rw [hg]; exact (below_size (by repeat (first | (with_reducible first | exact HB.out | apply below_alloc | apply pw_below_drewN | apply below_drew1 | refine below_set ?_ GE183.out) | exact HB.out))) : w.heap.size ≤ gb186)); have n5_ := Aside0.mk ((by rw [hg]; exact Nat.ne_of_lt (blk_lt (g := gb183) (o := .cells #[.int .u64 t181, .int .i64 t182] 37 (0, 0)) (by (with_reducible repeat (first | refine blk_drewN ?_ _ | refine blk_drew ?_ | refine blk_alloc ?_ _)); exact BK183.out)) : gb183 ≠ gb186)); have n6_ := Aside0.mk ((by rw [hg]; exact Nat.ne_of_gt (blk_lt (g := gb183) (o := .cells #[.int .u64 t181, .int .i64 t182] 37 (0, 0)) (by (with_reducible repeat (first | refine blk_drewN ?_ _ | refine blk_drew ?_ | refine blk_alloc ?_ _)); exact BK183.out)) : gb186 ≠ gb183)); clear BK183; clear HB; have BK183 := n0_; have HB := n1_; have BK186 := n2_; have GW186 := n3_; have GE186 := n4_; have NB183_186 := n5_; have NB186_183 := n6_; clear n0_ n1_ n2_ n3_ n4_ n5_ n6_; clear hb hbox hg; have hnb17 := NB186_183.out; have hnc17 := NB183_186.out; have hcz18_0 : w16.cell? ⟨gb186, 0, none⟩ = some (.int .u64 0) := (blk_cell BK186.out 0).trans rfl; have hcz18_1 : w16.cell? ⟨gb186, 1, none⟩ = some (.int .i64 0) := (blk_cell BK186.out 1).trans rfl; have hfz18_0 := blk_frozen BK186.out 0; have hfz18_1 := blk_frozen BK186.out 1))
        go_loopg [9] kj3 (fun kq v9 w' => ∃ (x9_2 : Int) (x184000_2 : Int) (x184001_2 : Int) (x187000_2 : Int) (x187001_2 : Int), v9 = .int .i64 x9_2 ∧ Aside0 (backfilllaw07_LadderTrue.l0 kq t178 (Int.tmod a0 4294967296) x9_2 x184000_2 x184001_2 x187000_2 x187001_2 = some r) ∧ Aside0 (kq ≤ kj3) ∧ Aside0 (w'.heap[gb183]? = some (.cells #[.int .u64 x184000_2, .int .i64 x184001_2] 37 (0, 0))) ∧ Aside0 (w'.heap[gb186]? = some (.cells #[.int .u64 x187000_2, .int .i64 x187001_2] 37 (0, 0))) ∧ Aside0 (Below w.heap.size w w'))
        case atStart => exact ⟨(0), (t181), (t182), (t184), (t185), (by first | rfl | (simp; done) | (simp [*]; done)), H', ⟨Nat.le_refl _⟩, ⟨by (with_reducible repeat (first | refine blk_drewN ?_ _ | refine blk_drew ?_ | refine blk_alloc ?_ _)); refine blk_far ?_ NB183_186.out _; (with_reducible repeat (first | refine blk_drewN ?_ _ | refine blk_drew ?_ | refine blk_alloc ?_ _)); refine blk_far ?_ NB183_186.out _; (with_reducible repeat (first | refine blk_drewN ?_ _ | refine blk_drew ?_ | refine blk_alloc ?_ _)); exact BK183.out⟩, ⟨by (with_reducible repeat (first | refine blk_drewN ?_ _ | refine blk_drew ?_ | refine blk_alloc ?_ _)); refine blk_put (cs := #[.int .u64 t184, .int .i64 0]) ?_ 1 _ rfl; (with_reducible repeat (first | refine blk_drewN ?_ _ | refine blk_drew ?_ | refine blk_alloc ?_ _)); refine blk_put (cs := #[.int .u64 0, .int .i64 0]) ?_ 0 _ rfl; (with_reducible repeat (first | refine blk_drewN ?_ _ | refine blk_drew ?_ | refine blk_alloc ?_ _)); exact BK186.out⟩, ⟨by repeat (first | (with_reducible first | exact HB.out | apply below_alloc | apply pw_below_drewN | apply below_drew1 | refine below_set ?_ GE183.out | refine below_set ?_ GE186.out) | exact HB.out)⟩⟩
        case round =>
          clear H'
          try clear c1
          try clear c2
          try clear p2
          try clear c6
          try clear c7
          try clear c7b0
          try clear c8
          try clear c8b0
          try clear c9
          try clear c12
          try clear c17
          try clear hcz14_0
          try clear hcz14_1
          try clear hcz18_0
          try clear hcz18_1
          try clear hfz14_0
          try clear hfz14_1
          try clear hfz18_0
          try clear hfz18_1
          try clear p2
          obtain ⟨x9_2, x184000_2, x184001_2, x187000_2, x187001_2, rfl, HA, HK2, BK183, BK186, HB⟩ := hrel
          cases gk with
          | zero => exact absurd HA.out (by simp [backfilllaw07_LadderTrue.l0])
          | succ k2 =>
            have H := HA.out
            clear HA
            simp only [backfilllaw07_LadderTrue.l0] at H
            by_cases c19 : x9_2 < 32
            · rw [if_pos c19] at H
              have c19b0 : decide (x9_2 < 32) = true := decide_eq_true c19
              clear c19
              replace H := Option.bind_eq_some_iff.mp H
              obtain ⟨⟨t187, t188⟩, A200, H⟩ := H
              replace H : ((backfilllaw07_squared.f k2 x187000_2 x187001_2 true).bind fun bt189 => (backfilllaw07_LadderTrue.l0 k2 t178 (Int.tmod a0 4294967296) (wrap64 (x9_2 + 1)) t187 t188 bt189.1 bt189.2)) = some r := H
              have A20 := Aside0.mk A200
              clear A200
              replace H := Option.bind_eq_some_iff.mp H
              obtain ⟨⟨t189, t190⟩, A210, H⟩ := H
              replace H : (backfilllaw07_LadderTrue.l0 k2 t178 (Int.tmod a0 4294967296) (wrap64 (x9_2 + 1)) t187 t188 t189 t190) = some r := H
              have A21 := Aside0.mk A210
              clear A210
              have H' := Aside0.mk H
              clear H
              have hnb22 := NB183_186.out
              have hnc22 := NB186_183.out
              have hcz23_0 : wr.cell? ⟨gb183, 0, none⟩ = some (.int .u64 x184000_2) := (blk_cell BK183.out 0).trans rfl
              have hcz23_1 : wr.cell? ⟨gb183, 1, none⟩ = some (.int .i64 x184001_2) := (blk_cell BK183.out 1).trans rfl
              have hfz23_0 := blk_frozen BK183.out 0
              have hfz23_1 := blk_frozen BK183.out 1
              go_wp2_with (first | ((with_reducible refine gate_callee (f := 22) rfl ?_); refine goesL_ (some 41) rfl rfl Tryd.func22 (by kernel_rfl) rfl #[.agg #[.int .u64 x184000_2, .int .i64 x184001_2], .bool false] rfl aA ?_; (with_reducible refine (backfilllaw07_squared.calls k2 x184000_2 x184001_2 false t187 t188 _ A20.out).mono ?_); rintro e w24 ⟨rfl, hb⟩; refine ⟨_, rfl, ?_⟩; have n0_ := Aside0.mk (blk_below (g := gb183) (o := .cells #[.int .u64 x184000_2, .int .i64 x184001_2] 37 (0, 0)) (by (with_reducible repeat (first | refine blk_drewN ?_ _ | refine blk_drew ?_ | refine blk_alloc ?_ _)); exact BK183.out) hb); have n1_ := Aside0.mk (blk_below (g := gb186) (o := .cells #[.int .u64 x187000_2, .int .i64 x187001_2] 37 (0, 0)) (by (with_reducible repeat (first | refine blk_drewN ?_ _ | refine blk_drew ?_ | refine blk_alloc ?_ _)); exact BK186.out) hb); have n2_ := Aside0.mk (below_step (by repeat (first | (with_reducible first | exact HB.out | apply below_alloc | apply pw_below_drewN | apply below_drew1 | refine below_set ?_ GE183.out | refine below_set ?_ GE186.out) | exact HB.out)) hb); clear BK183; clear BK186; clear HB; have BK183 := n0_; have BK186 := n1_; have HB := n2_; clear n0_ n1_ n2_; (try clear hb); (try clear hb2); (try clear hk); (try clear hi); have hcz25_0 : w24.cell? ⟨gb183, 0, none⟩ = some (.int .u64 x184000_2) := (blk_cell BK183.out 0).trans rfl; have hcz25_1 : w24.cell? ⟨gb183, 1, none⟩ = some (.int .i64 x184001_2) := (blk_cell BK183.out 1).trans rfl; have hfz25_0 := blk_frozen BK183.out 0; have hfz25_1 := blk_frozen BK183.out 1; have hcz26_0 : w24.cell? ⟨gb186, 0, none⟩ = some (.int .u64 x187000_2) := (blk_cell BK186.out 0).trans rfl; have hcz26_1 : w24.cell? ⟨gb186, 1, none⟩ = some (.int .i64 x187001_2) := (blk_cell BK186.out 1).trans rfl; have hfz26_0 := blk_frozen BK186.out 0; have hfz26_1 := blk_frozen BK186.out 1) | ((with_reducible refine gate_callee (f := 22) rfl ?_); refine goesL_ (some 43) rfl rfl Tryd.func22 (by kernel_rfl) rfl #[.agg #[.int .u64 x187000_2, .int .i64 x187001_2], .bool true] rfl aA ?_; (with_reducible refine (backfilllaw07_squared.calls k2 x187000_2 x187001_2 true t189 t190 _ A21.out).mono ?_); rintro e w27 ⟨rfl, hb⟩; refine ⟨_, rfl, ?_⟩; have n0_ := Aside0.mk (blk_below (g := gb183) (o := .cells #[.int .u64 t187, .int .i64 t188] 37 (0, 0)) (by (with_reducible repeat (first | refine blk_drewN ?_ _ | refine blk_drew ?_ | refine blk_alloc ?_ _)); refine blk_put (cs := #[.int .u64 t187, .int .i64 x184001_2]) ?_ 1 _ rfl; (with_reducible repeat (first | refine blk_drewN ?_ _ | refine blk_drew ?_ | refine blk_alloc ?_ _)); refine blk_put (cs := #[.int .u64 x184000_2, .int .i64 x184001_2]) ?_ 0 _ rfl; (with_reducible repeat (first | refine blk_drewN ?_ _ | refine blk_drew ?_ | refine blk_alloc ?_ _)); exact BK183.out) hb); have n1_ := Aside0.mk (blk_below (g := gb186) (o := .cells #[.int .u64 x187000_2, .int .i64 x187001_2] 37 (0, 0)) (by (with_reducible repeat (first | refine blk_drewN ?_ _ | refine blk_drew ?_ | refine blk_alloc ?_ _)); refine blk_far ?_ NB186_183.out _; (with_reducible repeat (first | refine blk_drewN ?_ _ | refine blk_drew ?_ | refine blk_alloc ?_ _)); refine blk_far ?_ NB186_183.out _; (with_reducible repeat (first | refine blk_drewN ?_ _ | refine blk_drew ?_ | refine blk_alloc ?_ _)); exact BK186.out) hb); have n2_ := Aside0.mk (below_step (by repeat (first | (with_reducible first | exact HB.out | apply below_alloc | apply pw_below_drewN | apply below_drew1 | refine below_set ?_ GE183.out | refine below_set ?_ GE186.out) | exact HB.out)) hb); clear BK183; clear BK186; clear HB; have BK183 := n0_; have BK186 := n1_; have HB := n2_; clear n0_ n1_ n2_; (try clear hb); (try clear hb2); (try clear hk); (try clear hi); have hcz28_0 : w27.cell? ⟨gb186, 0, none⟩ = some (.int .u64 x187000_2) := (blk_cell BK186.out 0).trans rfl; have hcz28_1 : w27.cell? ⟨gb186, 1, none⟩ = some (.int .i64 x187001_2) := (blk_cell BK186.out 1).trans rfl; have hfz28_0 := blk_frozen BK186.out 0; have hfz28_1 := blk_frozen BK186.out 1))
              go_roundg k2
              case measure => have := HJ3.out; have := HK2.out; omega
              case rel => exact ⟨(wrap64 (x9_2 + 1)), (t187), (t188), (t189), (t190), (by first | rfl | (simp; done) | (simp [*]; done)), H', ⟨by have := HJ3.out; have := HK2.out; omega⟩, ⟨by (with_reducible repeat (first | refine blk_drewN ?_ _ | refine blk_drew ?_ | refine blk_alloc ?_ _)); refine blk_far ?_ NB183_186.out _; (with_reducible repeat (first | refine blk_drewN ?_ _ | refine blk_drew ?_ | refine blk_alloc ?_ _)); refine blk_far ?_ NB183_186.out _; (with_reducible repeat (first | refine blk_drewN ?_ _ | refine blk_drew ?_ | refine blk_alloc ?_ _)); exact BK183.out⟩, ⟨by (with_reducible repeat (first | refine blk_drewN ?_ _ | refine blk_drew ?_ | refine blk_alloc ?_ _)); refine blk_put (cs := #[.int .u64 t189, .int .i64 x187001_2]) ?_ 1 _ rfl; (with_reducible repeat (first | refine blk_drewN ?_ _ | refine blk_drew ?_ | refine blk_alloc ?_ _)); refine blk_put (cs := #[.int .u64 x187000_2, .int .i64 x187001_2]) ?_ 0 _ rfl; (with_reducible repeat (first | refine blk_drewN ?_ _ | refine blk_drew ?_ | refine blk_alloc ?_ _)); exact BK186.out⟩, ⟨by repeat (first | (with_reducible first | exact HB.out | apply below_alloc | apply pw_below_drewN | apply below_drew1 | refine below_set ?_ GE183.out | refine below_set ?_ GE186.out) | exact HB.out)⟩⟩
            · rw [if_neg c19] at H
              have c19b0 : decide (x9_2 < 32) = false := decide_eq_false c19
              clear c19
              by_cases c29 : x184001_2 < (wrap64 ((-63) - (wrap64 ((Int.tmod a0 4294967296)))))
              · rw [if_pos c29] at H
                have c29b0 : decide (x184001_2 < (wrap64 ((-63) - (wrap64 ((Int.tmod a0 4294967296)))))) = true := decide_eq_true c29
                clear c29
                by_cases c30 : x187001_2 > (wrap64 ((-63) - (wrap64 ((Int.tmod a0 4294967296)))))
                · rw [if_pos c30] at H
                  have c30b0 : decide ((wrap64 ((-63) - (wrap64 ((Int.tmod a0 4294967296))))) < x187001_2) = true := decide_eq_true c30
                  clear c30
                  by_cases c31 : t178 = true
                  · subst c31
                    have H1 : (some true) = some r := by rw [if_pos rfl] at H; exact H
                    clear H
                    have H := H1
                    clear H1
                    obtain rfl := Option.some.inj H
                    have hnb32 := NB183_186.out
                    have hnc32 := NB186_183.out
                    have hcz33_0 : wr.cell? ⟨gb183, 0, none⟩ = some (.int .u64 x184000_2) := (blk_cell BK183.out 0).trans rfl
                    have hcz33_1 : wr.cell? ⟨gb183, 1, none⟩ = some (.int .i64 x184001_2) := (blk_cell BK183.out 1).trans rfl
                    have hfz33_0 := blk_frozen BK183.out 0
                    have hfz33_1 := blk_frozen BK183.out 1
                    have hcz34_0 : wr.cell? ⟨gb186, 0, none⟩ = some (.int .u64 x187000_2) := (blk_cell BK186.out 0).trans rfl
                    have hcz34_1 : wr.cell? ⟨gb186, 1, none⟩ = some (.int .i64 x187001_2) := (blk_cell BK186.out 1).trans rfl
                    have hfz34_0 := blk_frozen BK186.out 0
                    have hfz34_1 := blk_frozen BK186.out 1
                    go_wp2
                    go_ret
                    exact ⟨by first | rfl | (simp [errW_none, errW_some] <;> rfl) | (simp [*, errW_none, errW_some] <;> rfl), by repeat (first | (with_reducible first | exact HB.out | apply below_alloc | apply pw_below_drewN | apply below_drew1 | refine below_set ?_ GE183.out | refine below_set ?_ GE186.out) | exact HB.out)⟩
                  · replace c31 := Bool.eq_false_iff.mpr c31
                    subst c31
                    have H1 : (some false) = some r := by rw [if_neg (show ¬ (false = true) by decide)] at H; exact H
                    clear H
                    have H := H1
                    clear H1
                    obtain rfl := Option.some.inj H
                    have hnb35 := NB183_186.out
                    have hnc35 := NB186_183.out
                    have hcz36_0 : wr.cell? ⟨gb183, 0, none⟩ = some (.int .u64 x184000_2) := (blk_cell BK183.out 0).trans rfl
                    have hcz36_1 : wr.cell? ⟨gb183, 1, none⟩ = some (.int .i64 x184001_2) := (blk_cell BK183.out 1).trans rfl
                    have hfz36_0 := blk_frozen BK183.out 0
                    have hfz36_1 := blk_frozen BK183.out 1
                    have hcz37_0 : wr.cell? ⟨gb186, 0, none⟩ = some (.int .u64 x187000_2) := (blk_cell BK186.out 0).trans rfl
                    have hcz37_1 : wr.cell? ⟨gb186, 1, none⟩ = some (.int .i64 x187001_2) := (blk_cell BK186.out 1).trans rfl
                    have hfz37_0 := blk_frozen BK186.out 0
                    have hfz37_1 := blk_frozen BK186.out 1
                    go_wp2
                    go_ret
                    exact ⟨by first | rfl | (simp [errW_none, errW_some] <;> rfl) | (simp [*, errW_none, errW_some] <;> rfl), by repeat (first | (with_reducible first | exact HB.out | apply below_alloc | apply pw_below_drewN | apply below_drew1 | refine below_set ?_ GE183.out | refine below_set ?_ GE186.out) | exact HB.out)⟩
                · rw [if_neg c30] at H
                  have c30b0 : decide ((wrap64 ((-63) - (wrap64 ((Int.tmod a0 4294967296))))) < x187001_2) = false := decide_eq_false c30
                  clear c30
                  by_cases c38 : x187001_2 = (wrap64 ((-63) - (wrap64 ((Int.tmod a0 4294967296)))))
                  · rw [if_pos c38] at H
                    have c38b0 : (x187001_2 == (wrap64 ((-63) - (wrap64 ((Int.tmod a0 4294967296)))))) = true := beq_iff_eq.mpr c38
                    have c38b1 : (x187001_2 != (wrap64 ((-63) - (wrap64 ((Int.tmod a0 4294967296)))))) = false := bne_eq_false_iff_eq.mpr c38
                    clear c38
                    by_cases c39 : t178 = true
                    · subst c39
                      have H1 : (some (decide (x187000_2 ≥ 9223372036854775808))) = some r := by rw [if_pos rfl] at H; exact H
                      clear H
                      have H := H1
                      clear H1
                      obtain rfl := Option.some.inj H
                      have hnb40 := NB183_186.out
                      have hnc40 := NB186_183.out
                      have hcz41_0 : wr.cell? ⟨gb183, 0, none⟩ = some (.int .u64 x184000_2) := (blk_cell BK183.out 0).trans rfl
                      have hcz41_1 : wr.cell? ⟨gb183, 1, none⟩ = some (.int .i64 x184001_2) := (blk_cell BK183.out 1).trans rfl
                      have hfz41_0 := blk_frozen BK183.out 0
                      have hfz41_1 := blk_frozen BK183.out 1
                      have hcz42_0 : wr.cell? ⟨gb186, 0, none⟩ = some (.int .u64 x187000_2) := (blk_cell BK186.out 0).trans rfl
                      have hcz42_1 : wr.cell? ⟨gb186, 1, none⟩ = some (.int .i64 x187001_2) := (blk_cell BK186.out 1).trans rfl
                      have hfz42_0 := blk_frozen BK186.out 0
                      have hfz42_1 := blk_frozen BK186.out 1
                      go_wp2
                      go_ret
                      exact ⟨by first | rfl | (simp [errW_none, errW_some] <;> rfl) | (simp [*, errW_none, errW_some] <;> rfl), by repeat (first | (with_reducible first | exact HB.out | apply below_alloc | apply pw_below_drewN | apply below_drew1 | refine below_set ?_ GE183.out | refine below_set ?_ GE186.out) | exact HB.out)⟩
                    · replace c39 := Bool.eq_false_iff.mpr c39
                      subst c39
                      have H1 : (some false) = some r := by rw [if_neg (show ¬ (false = true) by decide)] at H; exact H
                      clear H
                      have H := H1
                      clear H1
                      obtain rfl := Option.some.inj H
                      have hnb43 := NB183_186.out
                      have hnc43 := NB186_183.out
                      have hcz44_0 : wr.cell? ⟨gb183, 0, none⟩ = some (.int .u64 x184000_2) := (blk_cell BK183.out 0).trans rfl
                      have hcz44_1 : wr.cell? ⟨gb183, 1, none⟩ = some (.int .i64 x184001_2) := (blk_cell BK183.out 1).trans rfl
                      have hfz44_0 := blk_frozen BK183.out 0
                      have hfz44_1 := blk_frozen BK183.out 1
                      have hcz45_0 : wr.cell? ⟨gb186, 0, none⟩ = some (.int .u64 x187000_2) := (blk_cell BK186.out 0).trans rfl
                      have hcz45_1 : wr.cell? ⟨gb186, 1, none⟩ = some (.int .i64 x187001_2) := (blk_cell BK186.out 1).trans rfl
                      have hfz45_0 := blk_frozen BK186.out 0
                      have hfz45_1 := blk_frozen BK186.out 1
                      go_wp2
                      go_ret
                      exact ⟨by first | rfl | (simp [errW_none, errW_some] <;> rfl) | (simp [*, errW_none, errW_some] <;> rfl), by repeat (first | (with_reducible first | exact HB.out | apply below_alloc | apply pw_below_drewN | apply below_drew1 | refine below_set ?_ GE183.out | refine below_set ?_ GE186.out) | exact HB.out)⟩
                  · rw [if_neg c38] at H
                    have c38b0 : (x187001_2 == (wrap64 ((-63) - (wrap64 ((Int.tmod a0 4294967296)))))) = false := beq_eq_false_iff_ne.mpr c38
                    have c38b1 : (x187001_2 != (wrap64 ((-63) - (wrap64 ((Int.tmod a0 4294967296)))))) = true := bne_iff_ne.mpr c38
                    by_cases c46 : t178 = true
                    · subst c46
                      have H1 : (some false) = some r := by rw [if_pos rfl] at H; exact H
                      clear H
                      have H := H1
                      clear H1
                      obtain rfl := Option.some.inj H
                      have hnb47 := NB183_186.out
                      have hnc47 := NB186_183.out
                      have hcz48_0 : wr.cell? ⟨gb183, 0, none⟩ = some (.int .u64 x184000_2) := (blk_cell BK183.out 0).trans rfl
                      have hcz48_1 : wr.cell? ⟨gb183, 1, none⟩ = some (.int .i64 x184001_2) := (blk_cell BK183.out 1).trans rfl
                      have hfz48_0 := blk_frozen BK183.out 0
                      have hfz48_1 := blk_frozen BK183.out 1
                      have hcz49_0 : wr.cell? ⟨gb186, 0, none⟩ = some (.int .u64 x187000_2) := (blk_cell BK186.out 0).trans rfl
                      have hcz49_1 : wr.cell? ⟨gb186, 1, none⟩ = some (.int .i64 x187001_2) := (blk_cell BK186.out 1).trans rfl
                      have hfz49_0 := blk_frozen BK186.out 0
                      have hfz49_1 := blk_frozen BK186.out 1
                      go_wp2
                      go_ret
                      exact ⟨by first | rfl | (simp [errW_none, errW_some] <;> rfl) | (simp [*, errW_none, errW_some] <;> rfl), by repeat (first | (with_reducible first | exact HB.out | apply below_alloc | apply pw_below_drewN | apply below_drew1 | refine below_set ?_ GE183.out | refine below_set ?_ GE186.out) | exact HB.out)⟩
                    · replace c46 := Bool.eq_false_iff.mpr c46
                      subst c46
                      have H1 : (some false) = some r := by rw [if_neg (show ¬ (false = true) by decide)] at H; exact H
                      clear H
                      have H := H1
                      clear H1
                      obtain rfl := Option.some.inj H
                      have hnb50 := NB183_186.out
                      have hnc50 := NB186_183.out
                      have hcz51_0 : wr.cell? ⟨gb183, 0, none⟩ = some (.int .u64 x184000_2) := (blk_cell BK183.out 0).trans rfl
                      have hcz51_1 : wr.cell? ⟨gb183, 1, none⟩ = some (.int .i64 x184001_2) := (blk_cell BK183.out 1).trans rfl
                      have hfz51_0 := blk_frozen BK183.out 0
                      have hfz51_1 := blk_frozen BK183.out 1
                      have hcz52_0 : wr.cell? ⟨gb186, 0, none⟩ = some (.int .u64 x187000_2) := (blk_cell BK186.out 0).trans rfl
                      have hcz52_1 : wr.cell? ⟨gb186, 1, none⟩ = some (.int .i64 x187001_2) := (blk_cell BK186.out 1).trans rfl
                      have hfz52_0 := blk_frozen BK186.out 0
                      have hfz52_1 := blk_frozen BK186.out 1
                      go_wp2
                      go_ret
                      exact ⟨by first | rfl | (simp [errW_none, errW_some] <;> rfl) | (simp [*, errW_none, errW_some] <;> rfl), by repeat (first | (with_reducible first | exact HB.out | apply below_alloc | apply pw_below_drewN | apply below_drew1 | refine below_set ?_ GE183.out | refine below_set ?_ GE186.out) | exact HB.out)⟩
              · rw [if_neg c29] at H
                have c29b0 : decide (x184001_2 < (wrap64 ((-63) - (wrap64 ((Int.tmod a0 4294967296)))))) = false := decide_eq_false c29
                clear c29
                by_cases c53 : x184001_2 = (wrap64 ((-63) - (wrap64 ((Int.tmod a0 4294967296)))))
                · rw [if_pos c53] at H
                  have c53b0 : (x184001_2 == (wrap64 ((-63) - (wrap64 ((Int.tmod a0 4294967296)))))) = true := beq_iff_eq.mpr c53
                  have c53b1 : (x184001_2 != (wrap64 ((-63) - (wrap64 ((Int.tmod a0 4294967296)))))) = false := bne_eq_false_iff_eq.mpr c53
                  clear c53
                  by_cases c54 : x187001_2 > (wrap64 ((-63) - (wrap64 ((Int.tmod a0 4294967296)))))
                  · rw [if_pos c54] at H
                    have c54b0 : decide ((wrap64 ((-63) - (wrap64 ((Int.tmod a0 4294967296))))) < x187001_2) = true := decide_eq_true c54
                    clear c54
                    by_cases c55 : t178 = true
                    · subst c55
                      have H1 : (if x184000_2 ≤ 9223372036854775808 then (some true) else (some false)) = some r := by rw [if_pos rfl] at H; exact H
                      clear H
                      have H := H1
                      clear H1
                      by_cases c56 : x184000_2 ≤ 9223372036854775808
                      · rw [if_pos c56] at H
                        have c56b0 : decide (x184000_2 ≤ 9223372036854775808) = true := decide_eq_true c56
                        clear c56
                        obtain rfl := Option.some.inj H
                        have hnb57 := NB183_186.out
                        have hnc57 := NB186_183.out
                        have hcz58_0 : wr.cell? ⟨gb183, 0, none⟩ = some (.int .u64 x184000_2) := (blk_cell BK183.out 0).trans rfl
                        have hcz58_1 : wr.cell? ⟨gb183, 1, none⟩ = some (.int .i64 x184001_2) := (blk_cell BK183.out 1).trans rfl
                        have hfz58_0 := blk_frozen BK183.out 0
                        have hfz58_1 := blk_frozen BK183.out 1
                        have hcz59_0 : wr.cell? ⟨gb186, 0, none⟩ = some (.int .u64 x187000_2) := (blk_cell BK186.out 0).trans rfl
                        have hcz59_1 : wr.cell? ⟨gb186, 1, none⟩ = some (.int .i64 x187001_2) := (blk_cell BK186.out 1).trans rfl
                        have hfz59_0 := blk_frozen BK186.out 0
                        have hfz59_1 := blk_frozen BK186.out 1
                        go_wp2
                        go_ret
                        exact ⟨by first | rfl | (simp [errW_none, errW_some] <;> rfl) | (simp [*, errW_none, errW_some] <;> rfl), by repeat (first | (with_reducible first | exact HB.out | apply below_alloc | apply pw_below_drewN | apply below_drew1 | refine below_set ?_ GE183.out | refine below_set ?_ GE186.out) | exact HB.out)⟩
                      · rw [if_neg c56] at H
                        have c56b0 : decide (x184000_2 ≤ 9223372036854775808) = false := decide_eq_false c56
                        clear c56
                        obtain rfl := Option.some.inj H
                        have hnb60 := NB183_186.out
                        have hnc60 := NB186_183.out
                        have hcz61_0 : wr.cell? ⟨gb183, 0, none⟩ = some (.int .u64 x184000_2) := (blk_cell BK183.out 0).trans rfl
                        have hcz61_1 : wr.cell? ⟨gb183, 1, none⟩ = some (.int .i64 x184001_2) := (blk_cell BK183.out 1).trans rfl
                        have hfz61_0 := blk_frozen BK183.out 0
                        have hfz61_1 := blk_frozen BK183.out 1
                        have hcz62_0 : wr.cell? ⟨gb186, 0, none⟩ = some (.int .u64 x187000_2) := (blk_cell BK186.out 0).trans rfl
                        have hcz62_1 : wr.cell? ⟨gb186, 1, none⟩ = some (.int .i64 x187001_2) := (blk_cell BK186.out 1).trans rfl
                        have hfz62_0 := blk_frozen BK186.out 0
                        have hfz62_1 := blk_frozen BK186.out 1
                        go_wp2
                        go_ret
                        exact ⟨by first | rfl | (simp [errW_none, errW_some] <;> rfl) | (simp [*, errW_none, errW_some] <;> rfl), by repeat (first | (with_reducible first | exact HB.out | apply below_alloc | apply pw_below_drewN | apply below_drew1 | refine below_set ?_ GE183.out | refine below_set ?_ GE186.out) | exact HB.out)⟩
                    · replace c55 := Bool.eq_false_iff.mpr c55
                      subst c55
                      have H1 : (some false) = some r := by rw [if_neg (show ¬ (false = true) by decide)] at H; exact H
                      clear H
                      have H := H1
                      clear H1
                      obtain rfl := Option.some.inj H
                      have hnb63 := NB183_186.out
                      have hnc63 := NB186_183.out
                      have hcz64_0 : wr.cell? ⟨gb183, 0, none⟩ = some (.int .u64 x184000_2) := (blk_cell BK183.out 0).trans rfl
                      have hcz64_1 : wr.cell? ⟨gb183, 1, none⟩ = some (.int .i64 x184001_2) := (blk_cell BK183.out 1).trans rfl
                      have hfz64_0 := blk_frozen BK183.out 0
                      have hfz64_1 := blk_frozen BK183.out 1
                      have hcz65_0 : wr.cell? ⟨gb186, 0, none⟩ = some (.int .u64 x187000_2) := (blk_cell BK186.out 0).trans rfl
                      have hcz65_1 : wr.cell? ⟨gb186, 1, none⟩ = some (.int .i64 x187001_2) := (blk_cell BK186.out 1).trans rfl
                      have hfz65_0 := blk_frozen BK186.out 0
                      have hfz65_1 := blk_frozen BK186.out 1
                      go_wp2
                      go_ret
                      exact ⟨by first | rfl | (simp [errW_none, errW_some] <;> rfl) | (simp [*, errW_none, errW_some] <;> rfl), by repeat (first | (with_reducible first | exact HB.out | apply below_alloc | apply pw_below_drewN | apply below_drew1 | refine below_set ?_ GE183.out | refine below_set ?_ GE186.out) | exact HB.out)⟩
                  · rw [if_neg c54] at H
                    have c54b0 : decide ((wrap64 ((-63) - (wrap64 ((Int.tmod a0 4294967296))))) < x187001_2) = false := decide_eq_false c54
                    clear c54
                    by_cases c66 : x187001_2 = (wrap64 ((-63) - (wrap64 ((Int.tmod a0 4294967296)))))
                    · rw [if_pos c66] at H
                      have c66b0 : (x187001_2 == (wrap64 ((-63) - (wrap64 ((Int.tmod a0 4294967296)))))) = true := beq_iff_eq.mpr c66
                      have c66b1 : (x187001_2 != (wrap64 ((-63) - (wrap64 ((Int.tmod a0 4294967296)))))) = false := bne_eq_false_iff_eq.mpr c66
                      clear c66
                      by_cases c67 : t178 = true
                      · subst c67
                        have H1 : (if x184000_2 ≤ 9223372036854775808 then (some (decide (x187000_2 ≥ 9223372036854775808))) else (some false)) = some r := by rw [if_pos rfl] at H; exact H
                        clear H
                        have H := H1
                        clear H1
                        by_cases c68 : x184000_2 ≤ 9223372036854775808
                        · rw [if_pos c68] at H
                          have c68b0 : decide (x184000_2 ≤ 9223372036854775808) = true := decide_eq_true c68
                          clear c68
                          obtain rfl := Option.some.inj H
                          have hnb69 := NB183_186.out
                          have hnc69 := NB186_183.out
                          have hcz70_0 : wr.cell? ⟨gb183, 0, none⟩ = some (.int .u64 x184000_2) := (blk_cell BK183.out 0).trans rfl
                          have hcz70_1 : wr.cell? ⟨gb183, 1, none⟩ = some (.int .i64 x184001_2) := (blk_cell BK183.out 1).trans rfl
                          have hfz70_0 := blk_frozen BK183.out 0
                          have hfz70_1 := blk_frozen BK183.out 1
                          have hcz71_0 : wr.cell? ⟨gb186, 0, none⟩ = some (.int .u64 x187000_2) := (blk_cell BK186.out 0).trans rfl
                          have hcz71_1 : wr.cell? ⟨gb186, 1, none⟩ = some (.int .i64 x187001_2) := (blk_cell BK186.out 1).trans rfl
                          have hfz71_0 := blk_frozen BK186.out 0
                          have hfz71_1 := blk_frozen BK186.out 1
                          go_wp2
                          go_ret
                          exact ⟨by first | rfl | (simp [errW_none, errW_some] <;> rfl) | (simp [*, errW_none, errW_some] <;> rfl), by repeat (first | (with_reducible first | exact HB.out | apply below_alloc | apply pw_below_drewN | apply below_drew1 | refine below_set ?_ GE183.out | refine below_set ?_ GE186.out) | exact HB.out)⟩
                        · rw [if_neg c68] at H
                          have c68b0 : decide (x184000_2 ≤ 9223372036854775808) = false := decide_eq_false c68
                          clear c68
                          obtain rfl := Option.some.inj H
                          have hnb72 := NB183_186.out
                          have hnc72 := NB186_183.out
                          have hcz73_0 : wr.cell? ⟨gb183, 0, none⟩ = some (.int .u64 x184000_2) := (blk_cell BK183.out 0).trans rfl
                          have hcz73_1 : wr.cell? ⟨gb183, 1, none⟩ = some (.int .i64 x184001_2) := (blk_cell BK183.out 1).trans rfl
                          have hfz73_0 := blk_frozen BK183.out 0
                          have hfz73_1 := blk_frozen BK183.out 1
                          have hcz74_0 : wr.cell? ⟨gb186, 0, none⟩ = some (.int .u64 x187000_2) := (blk_cell BK186.out 0).trans rfl
                          have hcz74_1 : wr.cell? ⟨gb186, 1, none⟩ = some (.int .i64 x187001_2) := (blk_cell BK186.out 1).trans rfl
                          have hfz74_0 := blk_frozen BK186.out 0
                          have hfz74_1 := blk_frozen BK186.out 1
                          go_wp2
                          go_ret
                          exact ⟨by first | rfl | (simp [errW_none, errW_some] <;> rfl) | (simp [*, errW_none, errW_some] <;> rfl), by repeat (first | (with_reducible first | exact HB.out | apply below_alloc | apply pw_below_drewN | apply below_drew1 | refine below_set ?_ GE183.out | refine below_set ?_ GE186.out) | exact HB.out)⟩
                      · replace c67 := Bool.eq_false_iff.mpr c67
                        subst c67
                        have H1 : (some false) = some r := by rw [if_neg (show ¬ (false = true) by decide)] at H; exact H
                        clear H
                        have H := H1
                        clear H1
                        obtain rfl := Option.some.inj H
                        have hnb75 := NB183_186.out
                        have hnc75 := NB186_183.out
                        have hcz76_0 : wr.cell? ⟨gb183, 0, none⟩ = some (.int .u64 x184000_2) := (blk_cell BK183.out 0).trans rfl
                        have hcz76_1 : wr.cell? ⟨gb183, 1, none⟩ = some (.int .i64 x184001_2) := (blk_cell BK183.out 1).trans rfl
                        have hfz76_0 := blk_frozen BK183.out 0
                        have hfz76_1 := blk_frozen BK183.out 1
                        have hcz77_0 : wr.cell? ⟨gb186, 0, none⟩ = some (.int .u64 x187000_2) := (blk_cell BK186.out 0).trans rfl
                        have hcz77_1 : wr.cell? ⟨gb186, 1, none⟩ = some (.int .i64 x187001_2) := (blk_cell BK186.out 1).trans rfl
                        have hfz77_0 := blk_frozen BK186.out 0
                        have hfz77_1 := blk_frozen BK186.out 1
                        go_wp2
                        go_ret
                        exact ⟨by first | rfl | (simp [errW_none, errW_some] <;> rfl) | (simp [*, errW_none, errW_some] <;> rfl), by repeat (first | (with_reducible first | exact HB.out | apply below_alloc | apply pw_below_drewN | apply below_drew1 | refine below_set ?_ GE183.out | refine below_set ?_ GE186.out) | exact HB.out)⟩
                    · rw [if_neg c66] at H
                      have c66b0 : (x187001_2 == (wrap64 ((-63) - (wrap64 ((Int.tmod a0 4294967296)))))) = false := beq_eq_false_iff_ne.mpr c66
                      have c66b1 : (x187001_2 != (wrap64 ((-63) - (wrap64 ((Int.tmod a0 4294967296)))))) = true := bne_iff_ne.mpr c66
                      by_cases c78 : t178 = true
                      · subst c78
                        have H1 : (if x184000_2 ≤ 9223372036854775808 then (some false) else (some false)) = some r := by rw [if_pos rfl] at H; exact H
                        clear H
                        have H := H1
                        clear H1
                        by_cases c79 : x184000_2 ≤ 9223372036854775808
                        · rw [if_pos c79] at H
                          have c79b0 : decide (x184000_2 ≤ 9223372036854775808) = true := decide_eq_true c79
                          clear c79
                          obtain rfl := Option.some.inj H
                          have hnb80 := NB183_186.out
                          have hnc80 := NB186_183.out
                          have hcz81_0 : wr.cell? ⟨gb183, 0, none⟩ = some (.int .u64 x184000_2) := (blk_cell BK183.out 0).trans rfl
                          have hcz81_1 : wr.cell? ⟨gb183, 1, none⟩ = some (.int .i64 x184001_2) := (blk_cell BK183.out 1).trans rfl
                          have hfz81_0 := blk_frozen BK183.out 0
                          have hfz81_1 := blk_frozen BK183.out 1
                          have hcz82_0 : wr.cell? ⟨gb186, 0, none⟩ = some (.int .u64 x187000_2) := (blk_cell BK186.out 0).trans rfl
                          have hcz82_1 : wr.cell? ⟨gb186, 1, none⟩ = some (.int .i64 x187001_2) := (blk_cell BK186.out 1).trans rfl
                          have hfz82_0 := blk_frozen BK186.out 0
                          have hfz82_1 := blk_frozen BK186.out 1
                          go_wp2
                          go_ret
                          exact ⟨by first | rfl | (simp [errW_none, errW_some] <;> rfl) | (simp [*, errW_none, errW_some] <;> rfl), by repeat (first | (with_reducible first | exact HB.out | apply below_alloc | apply pw_below_drewN | apply below_drew1 | refine below_set ?_ GE183.out | refine below_set ?_ GE186.out) | exact HB.out)⟩
                        · rw [if_neg c79] at H
                          have c79b0 : decide (x184000_2 ≤ 9223372036854775808) = false := decide_eq_false c79
                          clear c79
                          obtain rfl := Option.some.inj H
                          have hnb83 := NB183_186.out
                          have hnc83 := NB186_183.out
                          have hcz84_0 : wr.cell? ⟨gb183, 0, none⟩ = some (.int .u64 x184000_2) := (blk_cell BK183.out 0).trans rfl
                          have hcz84_1 : wr.cell? ⟨gb183, 1, none⟩ = some (.int .i64 x184001_2) := (blk_cell BK183.out 1).trans rfl
                          have hfz84_0 := blk_frozen BK183.out 0
                          have hfz84_1 := blk_frozen BK183.out 1
                          have hcz85_0 : wr.cell? ⟨gb186, 0, none⟩ = some (.int .u64 x187000_2) := (blk_cell BK186.out 0).trans rfl
                          have hcz85_1 : wr.cell? ⟨gb186, 1, none⟩ = some (.int .i64 x187001_2) := (blk_cell BK186.out 1).trans rfl
                          have hfz85_0 := blk_frozen BK186.out 0
                          have hfz85_1 := blk_frozen BK186.out 1
                          go_wp2
                          go_ret
                          exact ⟨by first | rfl | (simp [errW_none, errW_some] <;> rfl) | (simp [*, errW_none, errW_some] <;> rfl), by repeat (first | (with_reducible first | exact HB.out | apply below_alloc | apply pw_below_drewN | apply below_drew1 | refine below_set ?_ GE183.out | refine below_set ?_ GE186.out) | exact HB.out)⟩
                      · replace c78 := Bool.eq_false_iff.mpr c78
                        subst c78
                        have H1 : (some false) = some r := by rw [if_neg (show ¬ (false = true) by decide)] at H; exact H
                        clear H
                        have H := H1
                        clear H1
                        obtain rfl := Option.some.inj H
                        have hnb86 := NB183_186.out
                        have hnc86 := NB186_183.out
                        have hcz87_0 : wr.cell? ⟨gb183, 0, none⟩ = some (.int .u64 x184000_2) := (blk_cell BK183.out 0).trans rfl
                        have hcz87_1 : wr.cell? ⟨gb183, 1, none⟩ = some (.int .i64 x184001_2) := (blk_cell BK183.out 1).trans rfl
                        have hfz87_0 := blk_frozen BK183.out 0
                        have hfz87_1 := blk_frozen BK183.out 1
                        have hcz88_0 : wr.cell? ⟨gb186, 0, none⟩ = some (.int .u64 x187000_2) := (blk_cell BK186.out 0).trans rfl
                        have hcz88_1 : wr.cell? ⟨gb186, 1, none⟩ = some (.int .i64 x187001_2) := (blk_cell BK186.out 1).trans rfl
                        have hfz88_0 := blk_frozen BK186.out 0
                        have hfz88_1 := blk_frozen BK186.out 1
                        go_wp2
                        go_ret
                        exact ⟨by first | rfl | (simp [errW_none, errW_some] <;> rfl) | (simp [*, errW_none, errW_some] <;> rfl), by repeat (first | (with_reducible first | exact HB.out | apply below_alloc | apply pw_below_drewN | apply below_drew1 | refine below_set ?_ GE183.out | refine below_set ?_ GE186.out) | exact HB.out)⟩
                · rw [if_neg c53] at H
                  have c53b0 : (x184001_2 == (wrap64 ((-63) - (wrap64 ((Int.tmod a0 4294967296)))))) = false := beq_eq_false_iff_ne.mpr c53
                  have c53b1 : (x184001_2 != (wrap64 ((-63) - (wrap64 ((Int.tmod a0 4294967296)))))) = true := bne_iff_ne.mpr c53
                  by_cases c89 : x187001_2 > (wrap64 ((-63) - (wrap64 ((Int.tmod a0 4294967296)))))
                  · rw [if_pos c89] at H
                    have c89b0 : decide ((wrap64 ((-63) - (wrap64 ((Int.tmod a0 4294967296))))) < x187001_2) = true := decide_eq_true c89
                    clear c89
                    by_cases c90 : t178 = true
                    · subst c90
                      have H1 : (some false) = some r := by rw [if_pos rfl] at H; exact H
                      clear H
                      have H := H1
                      clear H1
                      obtain rfl := Option.some.inj H
                      have hnb91 := NB183_186.out
                      have hnc91 := NB186_183.out
                      have hcz92_0 : wr.cell? ⟨gb183, 0, none⟩ = some (.int .u64 x184000_2) := (blk_cell BK183.out 0).trans rfl
                      have hcz92_1 : wr.cell? ⟨gb183, 1, none⟩ = some (.int .i64 x184001_2) := (blk_cell BK183.out 1).trans rfl
                      have hfz92_0 := blk_frozen BK183.out 0
                      have hfz92_1 := blk_frozen BK183.out 1
                      have hcz93_0 : wr.cell? ⟨gb186, 0, none⟩ = some (.int .u64 x187000_2) := (blk_cell BK186.out 0).trans rfl
                      have hcz93_1 : wr.cell? ⟨gb186, 1, none⟩ = some (.int .i64 x187001_2) := (blk_cell BK186.out 1).trans rfl
                      have hfz93_0 := blk_frozen BK186.out 0
                      have hfz93_1 := blk_frozen BK186.out 1
                      go_wp2
                      go_ret
                      exact ⟨by first | rfl | (simp [errW_none, errW_some] <;> rfl) | (simp [*, errW_none, errW_some] <;> rfl), by repeat (first | (with_reducible first | exact HB.out | apply below_alloc | apply pw_below_drewN | apply below_drew1 | refine below_set ?_ GE183.out | refine below_set ?_ GE186.out) | exact HB.out)⟩
                    · replace c90 := Bool.eq_false_iff.mpr c90
                      subst c90
                      have H1 : (some false) = some r := by rw [if_neg (show ¬ (false = true) by decide)] at H; exact H
                      clear H
                      have H := H1
                      clear H1
                      obtain rfl := Option.some.inj H
                      have hnb94 := NB183_186.out
                      have hnc94 := NB186_183.out
                      have hcz95_0 : wr.cell? ⟨gb183, 0, none⟩ = some (.int .u64 x184000_2) := (blk_cell BK183.out 0).trans rfl
                      have hcz95_1 : wr.cell? ⟨gb183, 1, none⟩ = some (.int .i64 x184001_2) := (blk_cell BK183.out 1).trans rfl
                      have hfz95_0 := blk_frozen BK183.out 0
                      have hfz95_1 := blk_frozen BK183.out 1
                      have hcz96_0 : wr.cell? ⟨gb186, 0, none⟩ = some (.int .u64 x187000_2) := (blk_cell BK186.out 0).trans rfl
                      have hcz96_1 : wr.cell? ⟨gb186, 1, none⟩ = some (.int .i64 x187001_2) := (blk_cell BK186.out 1).trans rfl
                      have hfz96_0 := blk_frozen BK186.out 0
                      have hfz96_1 := blk_frozen BK186.out 1
                      go_wp2
                      go_ret
                      exact ⟨by first | rfl | (simp [errW_none, errW_some] <;> rfl) | (simp [*, errW_none, errW_some] <;> rfl), by repeat (first | (with_reducible first | exact HB.out | apply below_alloc | apply pw_below_drewN | apply below_drew1 | refine below_set ?_ GE183.out | refine below_set ?_ GE186.out) | exact HB.out)⟩
                  · rw [if_neg c89] at H
                    have c89b0 : decide ((wrap64 ((-63) - (wrap64 ((Int.tmod a0 4294967296))))) < x187001_2) = false := decide_eq_false c89
                    clear c89
                    by_cases c97 : x187001_2 = (wrap64 ((-63) - (wrap64 ((Int.tmod a0 4294967296)))))
                    · rw [if_pos c97] at H
                      have c97b0 : (x187001_2 == (wrap64 ((-63) - (wrap64 ((Int.tmod a0 4294967296)))))) = true := beq_iff_eq.mpr c97
                      have c97b1 : (x187001_2 != (wrap64 ((-63) - (wrap64 ((Int.tmod a0 4294967296)))))) = false := bne_eq_false_iff_eq.mpr c97
                      clear c97
                      by_cases c98 : t178 = true
                      · subst c98
                        have H1 : (some false) = some r := by rw [if_pos rfl] at H; exact H
                        clear H
                        have H := H1
                        clear H1
                        obtain rfl := Option.some.inj H
                        have hnb99 := NB183_186.out
                        have hnc99 := NB186_183.out
                        have hcz100_0 : wr.cell? ⟨gb183, 0, none⟩ = some (.int .u64 x184000_2) := (blk_cell BK183.out 0).trans rfl
                        have hcz100_1 : wr.cell? ⟨gb183, 1, none⟩ = some (.int .i64 x184001_2) := (blk_cell BK183.out 1).trans rfl
                        have hfz100_0 := blk_frozen BK183.out 0
                        have hfz100_1 := blk_frozen BK183.out 1
                        have hcz101_0 : wr.cell? ⟨gb186, 0, none⟩ = some (.int .u64 x187000_2) := (blk_cell BK186.out 0).trans rfl
                        have hcz101_1 : wr.cell? ⟨gb186, 1, none⟩ = some (.int .i64 x187001_2) := (blk_cell BK186.out 1).trans rfl
                        have hfz101_0 := blk_frozen BK186.out 0
                        have hfz101_1 := blk_frozen BK186.out 1
                        go_wp2
                        go_ret
                        exact ⟨by first | rfl | (simp [errW_none, errW_some] <;> rfl) | (simp [*, errW_none, errW_some] <;> rfl), by repeat (first | (with_reducible first | exact HB.out | apply below_alloc | apply pw_below_drewN | apply below_drew1 | refine below_set ?_ GE183.out | refine below_set ?_ GE186.out) | exact HB.out)⟩
                      · replace c98 := Bool.eq_false_iff.mpr c98
                        subst c98
                        have H1 : (some false) = some r := by rw [if_neg (show ¬ (false = true) by decide)] at H; exact H
                        clear H
                        have H := H1
                        clear H1
                        obtain rfl := Option.some.inj H
                        have hnb102 := NB183_186.out
                        have hnc102 := NB186_183.out
                        have hcz103_0 : wr.cell? ⟨gb183, 0, none⟩ = some (.int .u64 x184000_2) := (blk_cell BK183.out 0).trans rfl
                        have hcz103_1 : wr.cell? ⟨gb183, 1, none⟩ = some (.int .i64 x184001_2) := (blk_cell BK183.out 1).trans rfl
                        have hfz103_0 := blk_frozen BK183.out 0
                        have hfz103_1 := blk_frozen BK183.out 1
                        have hcz104_0 : wr.cell? ⟨gb186, 0, none⟩ = some (.int .u64 x187000_2) := (blk_cell BK186.out 0).trans rfl
                        have hcz104_1 : wr.cell? ⟨gb186, 1, none⟩ = some (.int .i64 x187001_2) := (blk_cell BK186.out 1).trans rfl
                        have hfz104_0 := blk_frozen BK186.out 0
                        have hfz104_1 := blk_frozen BK186.out 1
                        go_wp2
                        go_ret
                        exact ⟨by first | rfl | (simp [errW_none, errW_some] <;> rfl) | (simp [*, errW_none, errW_some] <;> rfl), by repeat (first | (with_reducible first | exact HB.out | apply below_alloc | apply pw_below_drewN | apply below_drew1 | refine below_set ?_ GE183.out | refine below_set ?_ GE186.out) | exact HB.out)⟩
                    · rw [if_neg c97] at H
                      have c97b0 : (x187001_2 == (wrap64 ((-63) - (wrap64 ((Int.tmod a0 4294967296)))))) = false := beq_eq_false_iff_ne.mpr c97
                      have c97b1 : (x187001_2 != (wrap64 ((-63) - (wrap64 ((Int.tmod a0 4294967296)))))) = true := bne_iff_ne.mpr c97
                      by_cases c105 : t178 = true
                      · subst c105
                        have H1 : (some false) = some r := by rw [if_pos rfl] at H; exact H
                        clear H
                        have H := H1
                        clear H1
                        obtain rfl := Option.some.inj H
                        have hnb106 := NB183_186.out
                        have hnc106 := NB186_183.out
                        have hcz107_0 : wr.cell? ⟨gb183, 0, none⟩ = some (.int .u64 x184000_2) := (blk_cell BK183.out 0).trans rfl
                        have hcz107_1 : wr.cell? ⟨gb183, 1, none⟩ = some (.int .i64 x184001_2) := (blk_cell BK183.out 1).trans rfl
                        have hfz107_0 := blk_frozen BK183.out 0
                        have hfz107_1 := blk_frozen BK183.out 1
                        have hcz108_0 : wr.cell? ⟨gb186, 0, none⟩ = some (.int .u64 x187000_2) := (blk_cell BK186.out 0).trans rfl
                        have hcz108_1 : wr.cell? ⟨gb186, 1, none⟩ = some (.int .i64 x187001_2) := (blk_cell BK186.out 1).trans rfl
                        have hfz108_0 := blk_frozen BK186.out 0
                        have hfz108_1 := blk_frozen BK186.out 1
                        go_wp2
                        go_ret
                        exact ⟨by first | rfl | (simp [errW_none, errW_some] <;> rfl) | (simp [*, errW_none, errW_some] <;> rfl), by repeat (first | (with_reducible first | exact HB.out | apply below_alloc | apply pw_below_drewN | apply below_drew1 | refine below_set ?_ GE183.out | refine below_set ?_ GE186.out) | exact HB.out)⟩
                      · replace c105 := Bool.eq_false_iff.mpr c105
                        subst c105
                        have H1 : (some false) = some r := by rw [if_neg (show ¬ (false = true) by decide)] at H; exact H
                        clear H
                        have H := H1
                        clear H1
                        obtain rfl := Option.some.inj H
                        have hnb109 := NB183_186.out
                        have hnc109 := NB186_183.out
                        have hcz110_0 : wr.cell? ⟨gb183, 0, none⟩ = some (.int .u64 x184000_2) := (blk_cell BK183.out 0).trans rfl
                        have hcz110_1 : wr.cell? ⟨gb183, 1, none⟩ = some (.int .i64 x184001_2) := (blk_cell BK183.out 1).trans rfl
                        have hfz110_0 := blk_frozen BK183.out 0
                        have hfz110_1 := blk_frozen BK183.out 1
                        have hcz111_0 : wr.cell? ⟨gb186, 0, none⟩ = some (.int .u64 x187000_2) := (blk_cell BK186.out 0).trans rfl
                        have hcz111_1 : wr.cell? ⟨gb186, 1, none⟩ = some (.int .i64 x187001_2) := (blk_cell BK186.out 1).trans rfl
                        have hfz111_0 := blk_frozen BK186.out 0
                        have hfz111_1 := blk_frozen BK186.out 1
                        go_wp2
                        go_ret
                        exact ⟨by first | rfl | (simp [errW_none, errW_some] <;> rfl) | (simp [*, errW_none, errW_some] <;> rfl), by repeat (first | (with_reducible first | exact HB.out | apply below_alloc | apply pw_below_drewN | apply below_drew1 | refine below_set ?_ GE183.out | refine below_set ?_ GE186.out) | exact HB.out)⟩

/-- THE ONE PURE STATEMENT of backfilllaw07_LadderTrue: yours. -/
def backfilllaw07_LadderTrue.Pure : Prop := ∀ (a0 : Int), (Lit.int .u64 a0).wf = true → ∃ k, backfilllaw07_LadderTrue.f k a0 = some true
theorem backfilllaw07_LadderTrue.walk (P : backfilllaw07_LadderTrue.Pure) (a0 : Int) (w : World) (hL : LaidW w) (w0 : (Lit.int .u64 a0).wf = true) :
    Calls Tryd.prog 6 #[.int .u64 a0] w fun e w' => e = .returned (.bool true) ∧ Below w.heap.size w w' := by
  obtain ⟨k, h⟩ := P a0 w0
  refine (backfilllaw07_LadderTrue.calls k a0 true w hL h).mono ?_
  rintro e w' ⟨rfl, hd⟩
  exact ⟨rfl, hd⟩

end Go.Proofs.YtmgmggkebmgafaaDoor.GL
