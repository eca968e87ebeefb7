-- Laid by a program of this session (wip/tools/pr.py): contracts and pure functions; Lean checks it.
import Derived.Test.YtbhijfbjdbjpbaaDoorGSHx0
import Derived.Test.YtbhijfbjdbjpbaaDoorGSHx3
namespace Go.Proofs.YtbhijfbjdbjpbaaDoor.GSH
open Go.RowKit Go.Proofs.YtbhijfbjdbjpbaaDoorW.PrintWords Go.Proofs.YtbhijfbjdbjpbaaDoorW.PrintLast Go.Proofs.YtbhijfbjdbjpbaaDoorW.PrintMore
attribute [local go_sem] max2_int min2_int max_two min_two max_three min_three max_four min_four   -- for this text's walks alone
set_option linter.unusedVariables false
set_option linter.unusedSimpArgs false

/-! ### wide_Times: function 66 -/
def wide_Times.f (a0_0 : Int) (a0_1 : Int) (a1 : Int) : Option (Int × Int × Bool) := (wide_Mul.f a0_1 a1).bind fun bt144 => ((wide_Mul.f a0_0 a1).bind fun bt146 => (if bt146.1 > 0 then ((wide_greatest.f).bind fun bt150 => (some (bt150.1, bt150.2, false))) else ((wide_Add.f bt144.1 bt144.2 bt146.2 0).bind fun bt152 => (some (bt152.1, bt152.2.1, bt152.2.2)))))
def wide_Times.T1 : Bool × List (List Nat × List Nat) := (true, [([], []), ([0], [0]), ([], []), ([1, 2], [1, 2]), ([], []), ([4], [4]), ([], []), ([5, 6, 3], [5, 6]), ([], []), ([], []), ([8, 3, 7, 0, 1, 2, 3, 8, 9], [3, 8]), ([9, 7, 10, 0, 1, 2, 3, 4, 5, 6, 7, 8, 9, 10], [7, 9])])
def wide_Times.B1 : List Nat := [0, 1, 0, 7, 0, 16, 0, 127, 0, 0, 1023, 2047]
theorem wide_Times.tab1 : rtab .any (opsOf Tryd.f66 1) = wide_Times.T1 := by kernel_rfl
theorem wide_Times.bits1 : waitsOk wide_Times.T1.2 wide_Times.B1 = true := by kernel_rfl
set_option maxHeartbeats 8000000 in
set_option maxRecDepth 100000 in
theorem wide_Times.calls (a0_0 : Int) (a0_1 : Int) (a1 : Int) (r1 : Int) (r2 : Int) (r3 : Bool) (w : World) (h : wide_Times.f a0_0 a0_1 a1 = some (r1, r2, r3)) :
  Calls Tryd.prog 66 #[.agg #[.int .u64 a0_0, .int .u64 a0_1], .int .u64 a1] w fun e w' => e = .returned (.tuple #[.agg #[.int .u64 r1, .int .u64 r2], .bool r3]) ∧ Below w.heap.size w w' := by
 have hu76 := Tryd.underlying76
 have HB := Aside0.mk (Below.refl w.heap.size w)
 have H : ((wide_Mul.f a0_1 a1).bind fun bt144 => ((wide_Mul.f a0_0 a1).bind fun bt146 => (if bt146.1 > 0 then ((wide_greatest.f).bind fun bt150 => (some (bt150.1, bt150.2, false))) else ((wide_Add.f bt144.1 bt144.2 bt146.2 0).bind fun bt152 => (some (bt152.1, bt152.2.1, bt152.2.2)))))) = some (r1, r2, r3) := h
 clear h; replace H := Option.bind_eq_some_iff.mp H; obtain ⟨⟨t144, t145⟩, A30, H⟩ := H; replace H : ((wide_Mul.f a0_0 a1).bind fun bt146 => (if bt146.1 > 0 then ((wide_greatest.f).bind fun bt150 => (some (bt150.1, bt150.2, false))) else ((wide_Add.f t144 t145 bt146.2 0).bind fun bt152 => (some (bt152.1, bt152.2.1, bt152.2.2))))) = some (r1, r2, r3) := H; have A3 := Aside0.mk A30; clear A30; replace H := Option.bind_eq_some_iff.mp H; obtain ⟨⟨t146, t147⟩, A40, H⟩ := H; replace H : (if t146 > 0 then ((wide_greatest.f).bind fun bt150 => (some (bt150.1, bt150.2, false))) else ((wide_Add.f t144 t145 t147 0).bind fun bt152 => (some (bt152.1, bt152.2.1, bt152.2.2)))) = some (r1, r2, r3) := H; have A4 := Aside0.mk A40; clear A40
 by_cases c5 : t146 > 0
 ·rw [if_pos c5] at H
  have c5b0 : decide (0 < t146) = true := decide_eq_true c5
  clear c5; replace H := Option.bind_eq_some_iff.mp H; obtain ⟨⟨t150, t151⟩, A60, H⟩ := H; replace H : (some (t150, t151, false)) = some (r1, r2, r3) := H; have A6 := Aside0.mk A60; clear A60
  simp only [Option.some.injEq, Prod.mk.injEq] at H
  obtain ⟨rfl, rfl, rfl⟩ := H
  go_enter Tryd.func66, Tryd.ntmps66
  try go_wp2_with (first | ((with_reducible refine gate_dst (N := 2) rfl ?_); refine bxA 2 #[.int .u64 a0_0, .int .u64 a0_1] 76 ?_; intro gb142 hg w7 hbox hb; have n0_ := Aside0.mk (below_step bA hb); have n1_ := Aside0.mk (hbox); have n2_ := Aside0.mk (gwA hg bA); have n3_ := Aside0.mk (gwA hg bA); clear HB; have HB := n0_; have BK142 := n1_; have GW142 := n2_; have GE142 := n3_; clear n0_ n1_ n2_ n3_ hb hbox hg) | ((with_reducible refine gate_dst (N := 4) rfl ?_); refine bxA 4 #[.int .u64 0, .int .u64 0] 76 ?_; intro gb143 hg w8 hbox hb; have n0_ := Aside0.mk (blk_below (g := gb142) kA hb); have n1_ := Aside0.mk (below_step bA hb); have n2_ := Aside0.mk (hbox); have n3_ := Aside0.mk (gwA hg bA); have n4_ := Aside0.mk (gwA hg bA); have n5_ := Aside0.mk (neA (g := gb142) hg kA); have n6_ := Aside0.mk (neB (g := gb142) hg kA); clear BK142 HB; have BK142 := n0_; have HB := n1_; have BK143 := n2_; have GW143 := n3_; have GE143 := n4_; have NB142_143 := n5_; have NB143_142 := n6_; clear n0_ n1_ n2_ n3_ n4_ n5_ n6_ hb hbox hg))
  have n0_ := Aside0.mk (blk_drew BK142.out); have n1_ := Aside0.mk (blk_drew BK143.out); have n2_ := Aside0.mk (below_drew1 HB.out); clear BK142 BK143 HB; have BK142 := n0_; have BK143 := n1_; have HB := n2_; clear n0_ n1_ n2_
  refine start_ (n := 12) (S := fun w' => w'.cell? ⟨gb142, 0, none⟩ = some (.int .u64 a0_0) ∧ w'.cell? ⟨gb142, 1, none⟩ = some (.int .u64 a0_1)) (ds := []) #[false, false, false, false, false, false, false, false, false, false, false, false] (by kernel_rfl) rfl rfl ⟨(blk_cell BK142.out 0).trans rfl, (blk_cell BK142.out 1).trans rfl⟩ (fun hHeld => ?_); refine with_tabW wide_Times.tab1 wide_Times.bits1 (fun HT_ HW_ => ?_)
  generalize w8.drew = w9 at BK142 BK143 HB hHeld ⊢
  refine pure_ (i := 0) (N := some 8) (v := ?_) (a' := ?_) #[true, false, false, false, false, false, false, false, false, false, false, false] rfl rfl (any_of HT_.out (by kernel_rfl)) (fun _ _ _ h => h) (Or.inl ⟨by rfl, ?_⟩) ?_ ?_
  rotate_left
  ·intro w'
   go_simp; with_reducible rfl
  rotate_left
  ·simp only [Act.put, List.setIfInBounds_toArray, List.set_cons_zero, List.set_cons_succ, i64_w, i32_w]
   rfl
  refine pure_ (i := 2) (N := some 10) (v := ?_) (a' := ?_) #[true, false, true, false, false, false, false, false, false, false, false, false] rfl rfl (any_of HT_.out (by kernel_rfl)) (fun _ _ _ h => h) (Or.inl ⟨by rfl, ?_⟩) ?_ ?_
  rotate_left
  ·intro w'
   go_simp; with_reducible rfl
  rotate_left
  ·simp only [Act.put, List.setIfInBounds_toArray, List.set_cons_zero, List.set_cons_succ, i64_w, i32_w]
   rfl
  refine pure_ (i := 4) (N := some 12) (v := ?_) (a' := ?_) #[true, false, true, false, true, false, false, false, false, false, false, false] rfl rfl (any_of HT_.out (by kernel_rfl)) (fun _ _ _ h => h) (Or.inl ⟨by rfl, ?_⟩) ?_ ?_
  rotate_left
  ·intro w'
   go_simp; with_reducible rfl
  rotate_left
  ·simp only [Act.put, List.setIfInBounds_toArray, List.set_cons_zero, List.set_cons_succ, i64_w, i32_w]
   rfl
  refine pure_ (i := 6) (N := some 14) (v := ?_) (a' := ?_) #[true, false, true, false, true, false, true, false, false, false, false, false] rfl rfl (any_of HT_.out (by kernel_rfl)) (fun _ _ _ h => h) (Or.inl ⟨by rfl, ?_⟩) ?_ ?_
  rotate_left
  ·intro w'
   go_simp; with_reducible rfl
  rotate_left
  ·simp only [Act.put, List.setIfInBounds_toArray, List.set_cons_zero, List.set_cons_succ, i64_w, i32_w]
   rfl
  refine take_ (i := 1) (N := some 9) (v := ?_) (a' := ?_) #[true, true, true, false, true, false, true, false, false, false, false, false] rfl rfl (take_ofW HT_.out HW_.out (by kernel_rfl)) (fun _ _ _ h => h) (Or.inl ⟨by rfl, ?_⟩) hHeld ?_ ?_
  rotate_left
  ·rintro w' ⟨s0, s1⟩
   go_simp; with_reducible rfl
  rotate_left
  ·simp only [Act.put, List.setIfInBounds_toArray, List.set_cons_zero, List.set_cons_succ, i64_w, i32_w]
   rfl
  refine take_ (i := 5) (N := some 13) (v := ?_) (a' := ?_) #[true, true, true, false, true, true, true, false, false, false, false, false] rfl rfl (take_ofW HT_.out HW_.out (by kernel_rfl)) (fun _ _ _ h => h) (Or.inl ⟨by rfl, ?_⟩) hHeld ?_ ?_
  rotate_left
  ·rintro w' ⟨s0, s1⟩
   go_simp; with_reducible rfl
  rotate_left
  ·simp only [Act.put, List.setIfInBounds_toArray, List.set_cons_zero, List.set_cons_succ, i64_w, i32_w]
   rfl
  refine join_ (σ := Nat × Nat) 2 #[true, true, true, true, true, true, true, true, true, true, false, false] (fun s_ => [(11, .agg #[.int .u64 t144, .int .u64 t145]), (15, .agg #[.int .u64 t146, .int .u64 t147]), (6, .pointer (some ⟨s_.1, 0, none⟩)), (7, .pointer (some ⟨s_.2, 0, none⟩))]) (fun s_ w' => (w'.cell? ⟨gb142, 0, none⟩ = some (.int .u64 a0_0) ∧ w'.cell? ⟨gb142, 1, none⟩ = some (.int .u64 a0_1)) ∧ (w'.heap[gb142]? = some (.cells #[.int .u64 a0_0, .int .u64 a0_1] 76 (0, 0))) ∧ (w'.heap[gb143]? = some (.cells #[.int .u64 0, .int .u64 0] 76 (0, 0))) ∧ (w'.heap[s_.1]? = some (.cells #[.int .u64 0, .int .u64 0] 76 (0, 0))) ∧ (w'.heap[s_.2]? = some (.cells #[.int .u64 0, .int .u64 0] 76 (0, 0))) ∧ (w.heap.size ≤ s_.1) ∧ (w.heap.size ≤ s_.1) ∧ (gb142 ≠ s_.1) ∧ (s_.1 ≠ gb142) ∧ (gb143 ≠ s_.1) ∧ (s_.1 ≠ gb143) ∧ (s_.2 ≠ s_.1) ∧ (s_.1 ≠ s_.2) ∧ (w.heap.size ≤ s_.2) ∧ (w.heap.size ≤ s_.2) ∧ (gb142 ≠ s_.2) ∧ (s_.2 ≠ gb142) ∧ (gb143 ≠ s_.2) ∧ (s_.2 ≠ gb143) ∧ (Below w.heap.size w w')) ?_ ?_
  rotate_left
  ·intro hJ3_7_8_9
   refine join_ (σ := Nat) 3 #[true, true, true, true, true, true, true, true, true, false, false, false] (fun s_ => [(11, .agg #[.int .u64 t144, .int .u64 t145]), (15, .agg #[.int .u64 t146, .int .u64 t147]), (6, .pointer (some ⟨s_, 0, none⟩))]) (fun s_ w' => (w'.cell? ⟨gb142, 0, none⟩ = some (.int .u64 a0_0) ∧ w'.cell? ⟨gb142, 1, none⟩ = some (.int .u64 a0_1)) ∧ (w'.heap[gb142]? = some (.cells #[.int .u64 a0_0, .int .u64 a0_1] 76 (0, 0))) ∧ (w'.heap[gb143]? = some (.cells #[.int .u64 0, .int .u64 0] 76 (0, 0))) ∧ (w'.heap[s_]? = some (.cells #[.int .u64 0, .int .u64 0] 76 (0, 0))) ∧ (w.heap.size ≤ s_) ∧ (w.heap.size ≤ s_) ∧ (gb142 ≠ s_) ∧ (s_ ≠ gb142) ∧ (gb143 ≠ s_) ∧ (s_ ≠ gb143) ∧ (Below w.heap.size w w')) ?_ ?_
   rotate_left
   ·intro hJ3_7_8
    refine join_ (σ := Nat) 3 #[true, true, true, true, true, true, true, true, false, true, false, false] (fun s_ => [(11, .agg #[.int .u64 t144, .int .u64 t145]), (15, .agg #[.int .u64 t146, .int .u64 t147]), (7, .pointer (some ⟨s_, 0, none⟩))]) (fun s_ w' => (w'.cell? ⟨gb142, 0, none⟩ = some (.int .u64 a0_0) ∧ w'.cell? ⟨gb142, 1, none⟩ = some (.int .u64 a0_1)) ∧ (w'.heap[gb142]? = some (.cells #[.int .u64 a0_0, .int .u64 a0_1] 76 (0, 0))) ∧ (w'.heap[gb143]? = some (.cells #[.int .u64 0, .int .u64 0] 76 (0, 0))) ∧ (w'.heap[s_]? = some (.cells #[.int .u64 0, .int .u64 0] 76 (0, 0))) ∧ (w.heap.size ≤ s_) ∧ (w.heap.size ≤ s_) ∧ (gb142 ≠ s_) ∧ (s_ ≠ gb142) ∧ (gb143 ≠ s_) ∧ (s_ ≠ gb143) ∧ (Below w.heap.size w w')) ?_ ?_
    rotate_left
    ·intro hJ3_7_9
     refine join_ (σ := Nat × Nat) 3 #[true, true, true, true, true, true, true, false, true, true, false, false] (fun s_ => [(11, .agg #[.int .u64 t144, .int .u64 t145]), (6, .pointer (some ⟨s_.1, 0, none⟩)), (7, .pointer (some ⟨s_.2, 0, none⟩))]) (fun s_ w' => (w'.cell? ⟨gb142, 0, none⟩ = some (.int .u64 a0_0) ∧ w'.cell? ⟨gb142, 1, none⟩ = some (.int .u64 a0_1)) ∧ (w'.heap[gb142]? = some (.cells #[.int .u64 a0_0, .int .u64 a0_1] 76 (0, 0))) ∧ (w'.heap[gb143]? = some (.cells #[.int .u64 0, .int .u64 0] 76 (0, 0))) ∧ (w'.heap[s_.1]? = some (.cells #[.int .u64 0, .int .u64 0] 76 (0, 0))) ∧ (w'.heap[s_.2]? = some (.cells #[.int .u64 0, .int .u64 0] 76 (0, 0))) ∧ (w.heap.size ≤ s_.1) ∧ (w.heap.size ≤ s_.1) ∧ (gb142 ≠ s_.1) ∧ (s_.1 ≠ gb142) ∧ (gb143 ≠ s_.1) ∧ (s_.1 ≠ gb143) ∧ (s_.2 ≠ s_.1) ∧ (s_.1 ≠ s_.2) ∧ (w.heap.size ≤ s_.2) ∧ (w.heap.size ≤ s_.2) ∧ (gb142 ≠ s_.2) ∧ (s_.2 ≠ gb142) ∧ (gb143 ≠ s_.2) ∧ (s_.2 ≠ gb143) ∧ (Below w.heap.size w w')) ?_ ?_
     rotate_left
     ·intro hJ3_8_9
      refine join_ (σ := Unit) 4 #[true, true, true, true, true, true, true, true, false, false, false, false] (fun s_ => [(11, .agg #[.int .u64 t144, .int .u64 t145]), (15, .agg #[.int .u64 t146, .int .u64 t147])]) (fun s_ w' => (w'.cell? ⟨gb142, 0, none⟩ = some (.int .u64 a0_0) ∧ w'.cell? ⟨gb142, 1, none⟩ = some (.int .u64 a0_1)) ∧ (w'.heap[gb142]? = some (.cells #[.int .u64 a0_0, .int .u64 a0_1] 76 (0, 0))) ∧ (w'.heap[gb143]? = some (.cells #[.int .u64 0, .int .u64 0] 76 (0, 0))) ∧ (Below w.heap.size w w')) ?_ ?_
      rotate_left
      ·intro hJ3_7
       refine join_ (σ := Nat) 4 #[true, true, true, true, true, true, true, false, true, false, false, false] (fun s_ => [(11, .agg #[.int .u64 t144, .int .u64 t145]), (6, .pointer (some ⟨s_, 0, none⟩))]) (fun s_ w' => (w'.cell? ⟨gb142, 0, none⟩ = some (.int .u64 a0_0) ∧ w'.cell? ⟨gb142, 1, none⟩ = some (.int .u64 a0_1)) ∧ (w'.heap[gb142]? = some (.cells #[.int .u64 a0_0, .int .u64 a0_1] 76 (0, 0))) ∧ (w'.heap[gb143]? = some (.cells #[.int .u64 0, .int .u64 0] 76 (0, 0))) ∧ (w'.heap[s_]? = some (.cells #[.int .u64 0, .int .u64 0] 76 (0, 0))) ∧ (w.heap.size ≤ s_) ∧ (w.heap.size ≤ s_) ∧ (gb142 ≠ s_) ∧ (s_ ≠ gb142) ∧ (gb143 ≠ s_) ∧ (s_ ≠ gb143) ∧ (Below w.heap.size w w')) ?_ ?_
       rotate_left
       ·intro hJ3_8
        refine join_ (σ := Nat) 4 #[true, true, true, true, true, true, true, false, false, true, false, false] (fun s_ => [(11, .agg #[.int .u64 t144, .int .u64 t145]), (7, .pointer (some ⟨s_, 0, none⟩))]) (fun s_ w' => (w'.cell? ⟨gb142, 0, none⟩ = some (.int .u64 a0_0) ∧ w'.cell? ⟨gb142, 1, none⟩ = some (.int .u64 a0_1)) ∧ (w'.heap[gb142]? = some (.cells #[.int .u64 a0_0, .int .u64 a0_1] 76 (0, 0))) ∧ (w'.heap[gb143]? = some (.cells #[.int .u64 0, .int .u64 0] 76 (0, 0))) ∧ (w'.heap[s_]? = some (.cells #[.int .u64 0, .int .u64 0] 76 (0, 0))) ∧ (w.heap.size ≤ s_) ∧ (w.heap.size ≤ s_) ∧ (gb142 ≠ s_) ∧ (s_ ≠ gb142) ∧ (gb143 ≠ s_) ∧ (s_ ≠ gb143) ∧ (Below w.heap.size w w')) ?_ ?_
        rotate_left
        ·intro hJ3_9
         refine join_ (σ := Nat × Nat) 4 #[true, true, true, false, true, true, true, false, true, true, false, false] (fun s_ => [(6, .pointer (some ⟨s_.1, 0, none⟩)), (7, .pointer (some ⟨s_.2, 0, none⟩))]) (fun s_ w' => (w'.cell? ⟨gb142, 0, none⟩ = some (.int .u64 a0_0) ∧ w'.cell? ⟨gb142, 1, none⟩ = some (.int .u64 a0_1)) ∧ (w'.heap[gb142]? = some (.cells #[.int .u64 a0_0, .int .u64 a0_1] 76 (0, 0))) ∧ (w'.heap[gb143]? = some (.cells #[.int .u64 0, .int .u64 0] 76 (0, 0))) ∧ (w'.heap[s_.1]? = some (.cells #[.int .u64 0, .int .u64 0] 76 (0, 0))) ∧ (w'.heap[s_.2]? = some (.cells #[.int .u64 0, .int .u64 0] 76 (0, 0))) ∧ (w.heap.size ≤ s_.1) ∧ (w.heap.size ≤ s_.1) ∧ (gb142 ≠ s_.1) ∧ (s_.1 ≠ gb142) ∧ (gb143 ≠ s_.1) ∧ (s_.1 ≠ gb143) ∧ (s_.2 ≠ s_.1) ∧ (s_.1 ≠ s_.2) ∧ (w.heap.size ≤ s_.2) ∧ (w.heap.size ≤ s_.2) ∧ (gb142 ≠ s_.2) ∧ (s_.2 ≠ gb142) ∧ (gb143 ≠ s_.2) ∧ (s_.2 ≠ gb143) ∧ (Below w.heap.size w w')) ?_ ?_
         rotate_left
         ·intro hJ8_9
          refine join_ (σ := Unit) 5 #[true, true, true, true, true, true, true, false, false, false, false, false] (fun s_ => [(11, .agg #[.int .u64 t144, .int .u64 t145])]) (fun s_ w' => (w'.cell? ⟨gb142, 0, none⟩ = some (.int .u64 a0_0) ∧ w'.cell? ⟨gb142, 1, none⟩ = some (.int .u64 a0_1)) ∧ (w'.heap[gb142]? = some (.cells #[.int .u64 a0_0, .int .u64 a0_1] 76 (0, 0))) ∧ (w'.heap[gb143]? = some (.cells #[.int .u64 0, .int .u64 0] 76 (0, 0))) ∧ (Below w.heap.size w w')) ?_ ?_
          rotate_left
          ·intro hJ3
           refine join_ (σ := Nat) 5 #[true, true, true, false, true, true, true, false, true, false, false, false] (fun s_ => [(6, .pointer (some ⟨s_, 0, none⟩))]) (fun s_ w' => (w'.cell? ⟨gb142, 0, none⟩ = some (.int .u64 a0_0) ∧ w'.cell? ⟨gb142, 1, none⟩ = some (.int .u64 a0_1)) ∧ (w'.heap[gb142]? = some (.cells #[.int .u64 a0_0, .int .u64 a0_1] 76 (0, 0))) ∧ (w'.heap[gb143]? = some (.cells #[.int .u64 0, .int .u64 0] 76 (0, 0))) ∧ (w'.heap[s_]? = some (.cells #[.int .u64 0, .int .u64 0] 76 (0, 0))) ∧ (w.heap.size ≤ s_) ∧ (w.heap.size ≤ s_) ∧ (gb142 ≠ s_) ∧ (s_ ≠ gb142) ∧ (gb143 ≠ s_) ∧ (s_ ≠ gb143) ∧ (Below w.heap.size w w')) ?_ ?_
           rotate_left
           ·intro hJ8
            refine join_ (σ := Nat) 5 #[true, true, true, false, true, true, true, false, false, true, false, false] (fun s_ => [(7, .pointer (some ⟨s_, 0, none⟩))]) (fun s_ w' => (w'.cell? ⟨gb142, 0, none⟩ = some (.int .u64 a0_0) ∧ w'.cell? ⟨gb142, 1, none⟩ = some (.int .u64 a0_1)) ∧ (w'.heap[gb142]? = some (.cells #[.int .u64 a0_0, .int .u64 a0_1] 76 (0, 0))) ∧ (w'.heap[gb143]? = some (.cells #[.int .u64 0, .int .u64 0] 76 (0, 0))) ∧ (w'.heap[s_]? = some (.cells #[.int .u64 0, .int .u64 0] 76 (0, 0))) ∧ (w.heap.size ≤ s_) ∧ (w.heap.size ≤ s_) ∧ (gb142 ≠ s_) ∧ (s_ ≠ gb142) ∧ (gb143 ≠ s_) ∧ (s_ ≠ gb143) ∧ (Below w.heap.size w w')) ?_ ?_
            rotate_left
            ·intro hJ9
             refine three_ (i := 3) (j := 8) (k := 9) (Ni := some 11) (Nj := some 6) (Nk := some 7) #[true, true, true, true, true, true, true, false, false, false, false, false] #[true, true, true, false, true, true, true, false, true, false, false, false] #[true, true, true, false, true, true, true, false, false, true, false, false] rfl rfl rfl rfl rfl rfl (three_of HT_.out (by kernel_rfl)) (by decide) (by decide) (by decide) (fun K hK => ?_) (fun K hK => ?_) (fun K hK => ?_)
             ·skip
              refine goes_ Tryd.func42 (by kernel_rfl) rfl #[.int .u64 a0_1, .int .u64 a1] (by rfl) rfl rfl aA ?_
              with_reducible refine (wide_Mul.calls a0_1 a1 t144 t145 _ A3.out).mono ?_
              rintro e w10 ⟨rfl, hb⟩
              refine ⟨_, rfl, ?_⟩; have n0_ := Aside0.mk (blk_below (g := gb142) kA hb); have n1_ := Aside0.mk (blk_below (g := gb143) kA hb); have n2_ := Aside0.mk (below_step bA hb); clear BK142 BK143 HB; have BK142 := n0_; have BK143 := n1_; have HB := n2_; clear n0_ n1_ n2_; (try clear hb)
              refine hK.out _ _ ⟨(blk_cell BK142.out 0).trans rfl, (blk_cell BK142.out 1).trans rfl⟩ (fun hHeld => ?_)
              clear hK K
              refine norm_ (a' := ?_) ?_ ?_
              rotate_left
              ·show Act.put _ (some 11) _ = _
               simp only [Act.put, List.setIfInBounds_toArray, List.set_cons_zero, List.set_cons_succ, i64_w, i32_w]
               rfl
              exact norm_ (by first | (simp only [putAll, Act.put, List.setIfInBounds_toArray, List.set_cons_zero, List.set_cons_succ]; done) | (simp only [putAll, Act.put, List.setIfInBounds_toArray, List.set_cons_zero, List.set_cons_succ]; rfl)) (hJ3 () _ ⟨hHeld, kA, kA, bA⟩)
             ·skip
              refine box_step ?hg (N := 6) ?hd (cs := #[.int .u64 0, .int .u64 0]) (t := 76) ?hr ?_; (case hd => rfl); (case hg => rfl); (case hr => first | (go_simp; done) | (go_simp; rfl))
              intro gb148 hg w10 hbox hb
              have n0_ := Aside0.mk (blk_below (g := gb142) kA hb); have n1_ := Aside0.mk (blk_below (g := gb143) kA hb); have n2_ := Aside0.mk (below_step bA hb); have n3_ := Aside0.mk (hbox); have n4_ := Aside0.mk (gwA hg bA); have n5_ := Aside0.mk (gwA hg bA); have n6_ := Aside0.mk (neA (g := gb142) hg kA); have n7_ := Aside0.mk (neB (g := gb142) hg kA); have n8_ := Aside0.mk (neA (g := gb143) hg kA); have n9_ := Aside0.mk (neB (g := gb143) hg kA); clear BK142 BK143 HB; have BK142 := n0_; have BK143 := n1_; have HB := n2_; have BK148 := n3_; have GW148 := n4_; have GE148 := n5_; have NB142_148 := n6_; have NB148_142 := n7_; have NB143_148 := n8_; have NB148_143 := n9_; clear n0_ n1_ n2_ n3_ n4_ n5_ n6_ n7_ n8_ n9_ hb hbox hg
              refine hK.out _ _ ⟨(blk_cell BK142.out 0).trans rfl, (blk_cell BK142.out 1).trans rfl⟩ (fun hHeld => ?_)
              clear hK K
              refine norm_ (a' := ?_) ?_ ?_
              rotate_left
              ·show Act.put _ (some 6) _ = _
               simp only [Act.put, List.setIfInBounds_toArray, List.set_cons_zero, List.set_cons_succ, i64_w, i32_w]
               rfl
              exact norm_ (by first | (simp only [putAll, Act.put, List.setIfInBounds_toArray, List.set_cons_zero, List.set_cons_succ]; done) | (simp only [putAll, Act.put, List.setIfInBounds_toArray, List.set_cons_zero, List.set_cons_succ]; rfl)) (hJ8 (gb148) _ ⟨hHeld, kA, kA, kA, GW148.out, GE148.out, NB142_148.out, NB148_142.out, NB143_148.out, NB148_143.out, bA⟩)
             ·skip
              refine box_step ?hg (N := 7) ?hd (cs := #[.int .u64 0, .int .u64 0]) (t := 76) ?hr ?_; (case hd => rfl); (case hg => rfl); (case hr => first | (go_simp; done) | (go_simp; rfl))
              intro gb149 hg w10 hbox hb
              have n0_ := Aside0.mk (blk_below (g := gb142) kA hb); have n1_ := Aside0.mk (blk_below (g := gb143) kA hb); have n2_ := Aside0.mk (below_step bA hb); have n3_ := Aside0.mk (hbox); have n4_ := Aside0.mk (gwA hg bA); have n5_ := Aside0.mk (gwA hg bA); have n6_ := Aside0.mk (neA (g := gb142) hg kA); have n7_ := Aside0.mk (neB (g := gb142) hg kA); have n8_ := Aside0.mk (neA (g := gb143) hg kA); have n9_ := Aside0.mk (neB (g := gb143) hg kA); clear BK142 BK143 HB; have BK142 := n0_; have BK143 := n1_; have HB := n2_; have BK149 := n3_; have GW149 := n4_; have GE149 := n5_; have NB142_149 := n6_; have NB149_142 := n7_; have NB143_149 := n8_; have NB149_143 := n9_; clear n0_ n1_ n2_ n3_ n4_ n5_ n6_ n7_ n8_ n9_ hb hbox hg
              refine hK.out _ _ ⟨(blk_cell BK142.out 0).trans rfl, (blk_cell BK142.out 1).trans rfl⟩ (fun hHeld => ?_)
              clear hK K
              refine norm_ (a' := ?_) ?_ ?_
              rotate_left
              ·show Act.put _ (some 7) _ = _
               simp only [Act.put, List.setIfInBounds_toArray, List.set_cons_zero, List.set_cons_succ, i64_w, i32_w]
               rfl
              exact norm_ (by first | (simp only [putAll, Act.put, List.setIfInBounds_toArray, List.set_cons_zero, List.set_cons_succ]; done) | (simp only [putAll, Act.put, List.setIfInBounds_toArray, List.set_cons_zero, List.set_cons_succ]; rfl)) (hJ9 (gb149) _ ⟨hHeld, kA, kA, kA, GW149.out, GE149.out, NB142_149.out, NB149_142.out, NB143_149.out, NB149_143.out, bA⟩)
            ·skip
             rintro gb149 w11 ⟨hS_, h0_, h1_, h2_, h3_, h4_, h5_, h6_, h7_, h8_, h9_⟩
             have n0_ : Aside0 (w11.heap[gb142]? = some (.cells #[.int .u64 a0_0, .int .u64 a0_1] 76 (0, 0))) := ⟨h0_⟩
             have n1_ : Aside0 (w11.heap[gb143]? = some (.cells #[.int .u64 0, .int .u64 0] 76 (0, 0))) := ⟨h1_⟩
             have n2_ : Aside0 (w11.heap[gb149]? = some (.cells #[.int .u64 0, .int .u64 0] 76 (0, 0))) := ⟨h2_⟩
             have n3_ : Aside0 (w.heap.size ≤ gb149) := ⟨h3_⟩
             have n4_ : Aside0 (w.heap.size ≤ gb149) := ⟨h4_⟩
             have n5_ : Aside0 (gb142 ≠ gb149) := ⟨h5_⟩
             have n6_ : Aside0 (gb149 ≠ gb142) := ⟨h6_⟩
             have n7_ : Aside0 (gb143 ≠ gb149) := ⟨h7_⟩
             have n8_ : Aside0 (gb149 ≠ gb143) := ⟨h8_⟩
             have n9_ : Aside0 (Below w.heap.size w w11) := ⟨h9_⟩
             clear BK142 BK143 HB h0_ h1_ h2_ h3_ h4_ h5_ h6_ h7_ h8_ h9_; have BK142 := n0_; have BK143 := n1_; have BK149 := n2_; have GW149 := n3_; have GE149 := n4_; have NB142_149 := n5_; have NB149_142 := n6_; have NB143_149 := n7_; have NB149_143 := n8_; have HB := n9_; clear n0_ n1_ n2_ n3_ n4_ n5_ n6_ n7_ n8_ n9_
             have hHeld : w11.cell? ⟨gb142, 0, none⟩ = some (.int .u64 a0_0) ∧ w11.cell? ⟨gb142, 1, none⟩ = some (.int .u64 a0_1) := hS_
             refine norm_ (a' := ?_) ?_ ?_
             rotate_left
             ·simp only [putAll, Act.put, List.setIfInBounds_toArray, List.set_cons_zero, List.set_cons_succ]
              rfl
             refine two_ (i := 3) (j := 8) (Ni := some 11) (Nj := some 6) #[true, true, true, true, true, true, true, false, false, true, false, false] #[true, true, true, false, true, true, true, false, true, true, false, false] rfl rfl rfl rfl (two_of HT_.out (by kernel_rfl)) (by decide) (by decide) (fun K hK => ?_) (fun K hK => ?_)
             ·skip
              refine goes_ Tryd.func42 (by kernel_rfl) rfl #[.int .u64 a0_1, .int .u64 a1] (by rfl) rfl rfl aA ?_
              with_reducible refine (wide_Mul.calls a0_1 a1 t144 t145 _ A3.out).mono ?_
              rintro e w12 ⟨rfl, hb⟩
              refine ⟨_, rfl, ?_⟩; have n0_ := Aside0.mk (blk_below (g := gb142) kA hb); have n1_ := Aside0.mk (blk_below (g := gb143) kA hb); have n2_ := Aside0.mk (blk_below (g := gb149) kA hb); have n3_ := Aside0.mk (below_step bA hb); clear BK142 BK143 BK149 HB; have BK142 := n0_; have BK143 := n1_; have BK149 := n2_; have HB := n3_; clear n0_ n1_ n2_ n3_; (try clear hb)
              refine hK.out _ _ ⟨(blk_cell BK142.out 0).trans rfl, (blk_cell BK142.out 1).trans rfl⟩ (fun hHeld => ?_)
              clear hK K
              refine norm_ (a' := ?_) ?_ ?_
              rotate_left
              ·show Act.put _ (some 11) _ = _
               simp only [Act.put, List.setIfInBounds_toArray, List.set_cons_zero, List.set_cons_succ, i64_w, i32_w]
               rfl
              exact norm_ (by first | (simp only [putAll, Act.put, List.setIfInBounds_toArray, List.set_cons_zero, List.set_cons_succ]; done) | (simp only [putAll, Act.put, List.setIfInBounds_toArray, List.set_cons_zero, List.set_cons_succ]; rfl)) (hJ3_9 (gb149) _ ⟨hHeld, kA, kA, kA, GW149.out, GE149.out, NB142_149.out, NB149_142.out, NB143_149.out, NB149_143.out, bA⟩)
             ·skip
              refine box_step ?hg (N := 6) ?hd (cs := #[.int .u64 0, .int .u64 0]) (t := 76) ?hr ?_; (case hd => rfl); (case hg => rfl); (case hr => first | (go_simp; done) | (go_simp; rfl))
              intro gb148 hg w12 hbox hb
              have n0_ := Aside0.mk (blk_below (g := gb142) kA hb); have n1_ := Aside0.mk (blk_below (g := gb143) kA hb); have n2_ := Aside0.mk (blk_below (g := gb149) kA hb); have n3_ := Aside0.mk (below_step bA hb); have n4_ := Aside0.mk (hbox); have n5_ := Aside0.mk (gwA hg bA); have n6_ := Aside0.mk (gwA hg bA); have n7_ := Aside0.mk (neA (g := gb142) hg kA); have n8_ := Aside0.mk (neB (g := gb142) hg kA); have n9_ := Aside0.mk (neA (g := gb143) hg kA); have n10_ := Aside0.mk (neB (g := gb143) hg kA); have n11_ := Aside0.mk (neA (g := gb149) hg kA); have n12_ := Aside0.mk (neB (g := gb149) hg kA); clear BK142 BK143 BK149 HB; have BK142 := n0_; have BK143 := n1_; have BK149 := n2_; have HB := n3_; have BK148 := n4_; have GW148 := n5_; have GE148 := n6_; have NB142_148 := n7_; have NB148_142 := n8_; have NB143_148 := n9_; have NB148_143 := n10_; have NB149_148 := n11_; have NB148_149 := n12_; clear n0_ n1_ n2_ n3_ n4_ n5_ n6_ n7_ n8_ n9_ n10_ n11_ n12_ hb hbox hg
              refine hK.out _ _ ⟨(blk_cell BK142.out 0).trans rfl, (blk_cell BK142.out 1).trans rfl⟩ (fun hHeld => ?_)
              clear hK K
              refine norm_ (a' := ?_) ?_ ?_
              rotate_left
              ·show Act.put _ (some 6) _ = _
               simp only [Act.put, List.setIfInBounds_toArray, List.set_cons_zero, List.set_cons_succ, i64_w, i32_w]
               rfl
              exact norm_ (by first | (simp only [putAll, Act.put, List.setIfInBounds_toArray, List.set_cons_zero, List.set_cons_succ]; done) | (simp only [putAll, Act.put, List.setIfInBounds_toArray, List.set_cons_zero, List.set_cons_succ]; rfl)) (hJ8_9 (gb148, gb149) _ ⟨hHeld, kA, kA, kA, kA, GW148.out, GE148.out, NB142_148.out, NB148_142.out, NB143_148.out, NB148_143.out, NB149_148.out, NB148_149.out, GW149.out, GE149.out, NB142_149.out, NB149_142.out, NB143_149.out, NB149_143.out, bA⟩)
           ·skip
            rintro gb148 w11 ⟨hS_, h0_, h1_, h2_, h3_, h4_, h5_, h6_, h7_, h8_, h9_⟩
            have n0_ : Aside0 (w11.heap[gb142]? = some (.cells #[.int .u64 a0_0, .int .u64 a0_1] 76 (0, 0))) := ⟨h0_⟩
            have n1_ : Aside0 (w11.heap[gb143]? = some (.cells #[.int .u64 0, .int .u64 0] 76 (0, 0))) := ⟨h1_⟩
            have n2_ : Aside0 (w11.heap[gb148]? = some (.cells #[.int .u64 0, .int .u64 0] 76 (0, 0))) := ⟨h2_⟩
            have n3_ : Aside0 (w.heap.size ≤ gb148) := ⟨h3_⟩
            have n4_ : Aside0 (w.heap.size ≤ gb148) := ⟨h4_⟩
            have n5_ : Aside0 (gb142 ≠ gb148) := ⟨h5_⟩
            have n6_ : Aside0 (gb148 ≠ gb142) := ⟨h6_⟩
            have n7_ : Aside0 (gb143 ≠ gb148) := ⟨h7_⟩
            have n8_ : Aside0 (gb148 ≠ gb143) := ⟨h8_⟩
            have n9_ : Aside0 (Below w.heap.size w w11) := ⟨h9_⟩
            clear BK142 BK143 HB h0_ h1_ h2_ h3_ h4_ h5_ h6_ h7_ h8_ h9_; have BK142 := n0_; have BK143 := n1_; have BK148 := n2_; have GW148 := n3_; have GE148 := n4_; have NB142_148 := n5_; have NB148_142 := n6_; have NB143_148 := n7_; have NB148_143 := n8_; have HB := n9_; clear n0_ n1_ n2_ n3_ n4_ n5_ n6_ n7_ n8_ n9_
            have hHeld : w11.cell? ⟨gb142, 0, none⟩ = some (.int .u64 a0_0) ∧ w11.cell? ⟨gb142, 1, none⟩ = some (.int .u64 a0_1) := hS_
            refine norm_ (a' := ?_) ?_ ?_
            rotate_left
            ·simp only [putAll, Act.put, List.setIfInBounds_toArray, List.set_cons_zero, List.set_cons_succ]
             rfl
            refine two_ (i := 3) (j := 9) (Ni := some 11) (Nj := some 7) #[true, true, true, true, true, true, true, false, true, false, false, false] #[true, true, true, false, true, true, true, false, true, true, false, false] rfl rfl rfl rfl (two_of HT_.out (by kernel_rfl)) (by decide) (by decide) (fun K hK => ?_) (fun K hK => ?_)
            ·skip
             refine goes_ Tryd.func42 (by kernel_rfl) rfl #[.int .u64 a0_1, .int .u64 a1] (by rfl) rfl rfl aA ?_
             with_reducible refine (wide_Mul.calls a0_1 a1 t144 t145 _ A3.out).mono ?_
             rintro e w12 ⟨rfl, hb⟩
             refine ⟨_, rfl, ?_⟩; have n0_ := Aside0.mk (blk_below (g := gb142) kA hb); have n1_ := Aside0.mk (blk_below (g := gb143) kA hb); have n2_ := Aside0.mk (blk_below (g := gb148) kA hb); have n3_ := Aside0.mk (below_step bA hb); clear BK142 BK143 BK148 HB; have BK142 := n0_; have BK143 := n1_; have BK148 := n2_; have HB := n3_; clear n0_ n1_ n2_ n3_; (try clear hb)
             refine hK.out _ _ ⟨(blk_cell BK142.out 0).trans rfl, (blk_cell BK142.out 1).trans rfl⟩ (fun hHeld => ?_)
             clear hK K
             refine norm_ (a' := ?_) ?_ ?_
             rotate_left
             ·show Act.put _ (some 11) _ = _
              simp only [Act.put, List.setIfInBounds_toArray, List.set_cons_zero, List.set_cons_succ, i64_w, i32_w]
              rfl
             exact norm_ (by first | (simp only [putAll, Act.put, List.setIfInBounds_toArray, List.set_cons_zero, List.set_cons_succ]; done) | (simp only [putAll, Act.put, List.setIfInBounds_toArray, List.set_cons_zero, List.set_cons_succ]; rfl)) (hJ3_8 (gb148) _ ⟨hHeld, kA, kA, kA, GW148.out, GE148.out, NB142_148.out, NB148_142.out, NB143_148.out, NB148_143.out, bA⟩)
            ·skip
             refine box_step ?hg (N := 7) ?hd (cs := #[.int .u64 0, .int .u64 0]) (t := 76) ?hr ?_; (case hd => rfl); (case hg => rfl); (case hr => first | (go_simp; done) | (go_simp; rfl))
             intro gb149 hg w12 hbox hb
             have n0_ := Aside0.mk (blk_below (g := gb142) kA hb); have n1_ := Aside0.mk (blk_below (g := gb143) kA hb); have n2_ := Aside0.mk (blk_below (g := gb148) kA hb); have n3_ := Aside0.mk (below_step bA hb); have n4_ := Aside0.mk (hbox); have n5_ := Aside0.mk (gwA hg bA); have n6_ := Aside0.mk (gwA hg bA); have n7_ := Aside0.mk (neA (g := gb142) hg kA); have n8_ := Aside0.mk (neB (g := gb142) hg kA); have n9_ := Aside0.mk (neA (g := gb143) hg kA); have n10_ := Aside0.mk (neB (g := gb143) hg kA); have n11_ := Aside0.mk (neA (g := gb148) hg kA); have n12_ := Aside0.mk (neB (g := gb148) hg kA); clear BK142 BK143 BK148 HB; have BK142 := n0_; have BK143 := n1_; have BK148 := n2_; have HB := n3_; have BK149 := n4_; have GW149 := n5_; have GE149 := n6_; have NB142_149 := n7_; have NB149_142 := n8_; have NB143_149 := n9_; have NB149_143 := n10_; have NB148_149 := n11_; have NB149_148 := n12_; clear n0_ n1_ n2_ n3_ n4_ n5_ n6_ n7_ n8_ n9_ n10_ n11_ n12_ hb hbox hg
             refine hK.out _ _ ⟨(blk_cell BK142.out 0).trans rfl, (blk_cell BK142.out 1).trans rfl⟩ (fun hHeld => ?_)
             clear hK K
             refine norm_ (a' := ?_) ?_ ?_
             rotate_left
             ·show Act.put _ (some 7) _ = _
              simp only [Act.put, List.setIfInBounds_toArray, List.set_cons_zero, List.set_cons_succ, i64_w, i32_w]
              rfl
             exact norm_ (by first | (simp only [putAll, Act.put, List.setIfInBounds_toArray, List.set_cons_zero, List.set_cons_succ]; done) | (simp only [putAll, Act.put, List.setIfInBounds_toArray, List.set_cons_zero, List.set_cons_succ]; rfl)) (hJ8_9 (gb148, gb149) _ ⟨hHeld, kA, kA, kA, kA, GW148.out, GE148.out, NB142_148.out, NB148_142.out, NB143_148.out, NB148_143.out, NB149_148.out, NB148_149.out, GW149.out, GE149.out, NB142_149.out, NB149_142.out, NB143_149.out, NB149_143.out, bA⟩)
          ·skip
           rintro _ w11 ⟨hS_, h0_, h1_, h2_⟩
           have n0_ : Aside0 (w11.heap[gb142]? = some (.cells #[.int .u64 a0_0, .int .u64 a0_1] 76 (0, 0))) := ⟨h0_⟩
           have n1_ : Aside0 (w11.heap[gb143]? = some (.cells #[.int .u64 0, .int .u64 0] 76 (0, 0))) := ⟨h1_⟩
           have n2_ : Aside0 (Below w.heap.size w w11) := ⟨h2_⟩
           clear BK142 BK143 HB h0_ h1_ h2_; have BK142 := n0_; have BK143 := n1_; have HB := n2_; clear n0_ n1_ n2_
           have hHeld : w11.cell? ⟨gb142, 0, none⟩ = some (.int .u64 a0_0) ∧ w11.cell? ⟨gb142, 1, none⟩ = some (.int .u64 a0_1) := hS_
           refine norm_ (a' := ?_) ?_ ?_
           rotate_left
           ·simp only [putAll, Act.put, List.setIfInBounds_toArray, List.set_cons_zero, List.set_cons_succ]
            rfl
           refine three_ (i := 7) (j := 8) (k := 9) (Ni := some 15) (Nj := some 6) (Nk := some 7) #[true, true, true, true, true, true, true, true, false, false, false, false] #[true, true, true, true, true, true, true, false, true, false, false, false] #[true, true, true, true, true, true, true, false, false, true, false, false] rfl rfl rfl rfl rfl rfl (three_of HT_.out (by kernel_rfl)) (by decide) (by decide) (by decide) (fun K hK => ?_) (fun K hK => ?_) (fun K hK => ?_)
           ·skip
            refine goes_ Tryd.func42 (by kernel_rfl) rfl #[.int .u64 a0_0, .int .u64 a1] (by rfl) rfl rfl aA ?_
            with_reducible refine (wide_Mul.calls a0_0 a1 t146 t147 _ A4.out).mono ?_
            rintro e w12 ⟨rfl, hb⟩
            refine ⟨_, rfl, ?_⟩; have n0_ := Aside0.mk (blk_below (g := gb142) kA hb); have n1_ := Aside0.mk (blk_below (g := gb143) kA hb); have n2_ := Aside0.mk (below_step bA hb); clear BK142 BK143 HB; have BK142 := n0_; have BK143 := n1_; have HB := n2_; clear n0_ n1_ n2_; (try clear hb)
            refine hK.out _ _ ⟨(blk_cell BK142.out 0).trans rfl, (blk_cell BK142.out 1).trans rfl⟩ (fun hHeld => ?_)
            clear hK K
            refine norm_ (a' := ?_) ?_ ?_
            rotate_left
            ·show Act.put _ (some 15) _ = _
             simp only [Act.put, List.setIfInBounds_toArray, List.set_cons_zero, List.set_cons_succ, i64_w, i32_w]
             rfl
            exact norm_ (by first | (simp only [putAll, Act.put, List.setIfInBounds_toArray, List.set_cons_zero, List.set_cons_succ]; done) | (simp only [putAll, Act.put, List.setIfInBounds_toArray, List.set_cons_zero, List.set_cons_succ]; rfl)) (hJ3_7 () _ ⟨hHeld, kA, kA, bA⟩)
           ·skip
            refine box_step ?hg (N := 6) ?hd (cs := #[.int .u64 0, .int .u64 0]) (t := 76) ?hr ?_; (case hd => rfl); (case hg => rfl); (case hr => first | (go_simp; done) | (go_simp; rfl))
            intro gb148 hg w12 hbox hb
            have n0_ := Aside0.mk (blk_below (g := gb142) kA hb); have n1_ := Aside0.mk (blk_below (g := gb143) kA hb); have n2_ := Aside0.mk (below_step bA hb); have n3_ := Aside0.mk (hbox); have n4_ := Aside0.mk (gwA hg bA); have n5_ := Aside0.mk (gwA hg bA); have n6_ := Aside0.mk (neA (g := gb142) hg kA); have n7_ := Aside0.mk (neB (g := gb142) hg kA); have n8_ := Aside0.mk (neA (g := gb143) hg kA); have n9_ := Aside0.mk (neB (g := gb143) hg kA); clear BK142 BK143 HB; have BK142 := n0_; have BK143 := n1_; have HB := n2_; have BK148 := n3_; have GW148 := n4_; have GE148 := n5_; have NB142_148 := n6_; have NB148_142 := n7_; have NB143_148 := n8_; have NB148_143 := n9_; clear n0_ n1_ n2_ n3_ n4_ n5_ n6_ n7_ n8_ n9_ hb hbox hg
            refine hK.out _ _ ⟨(blk_cell BK142.out 0).trans rfl, (blk_cell BK142.out 1).trans rfl⟩ (fun hHeld => ?_)
            clear hK K
            refine norm_ (a' := ?_) ?_ ?_
            rotate_left
            ·show Act.put _ (some 6) _ = _
             simp only [Act.put, List.setIfInBounds_toArray, List.set_cons_zero, List.set_cons_succ, i64_w, i32_w]
             rfl
            exact norm_ (by first | (simp only [putAll, Act.put, List.setIfInBounds_toArray, List.set_cons_zero, List.set_cons_succ]; done) | (simp only [putAll, Act.put, List.setIfInBounds_toArray, List.set_cons_zero, List.set_cons_succ]; rfl)) (hJ3_8 (gb148) _ ⟨hHeld, kA, kA, kA, GW148.out, GE148.out, NB142_148.out, NB148_142.out, NB143_148.out, NB148_143.out, bA⟩)
           ·skip
            refine box_step ?hg (N := 7) ?hd (cs := #[.int .u64 0, .int .u64 0]) (t := 76) ?hr ?_; (case hd => rfl); (case hg => rfl); (case hr => first | (go_simp; done) | (go_simp; rfl))
            intro gb149 hg w12 hbox hb
            have n0_ := Aside0.mk (blk_below (g := gb142) kA hb); have n1_ := Aside0.mk (blk_below (g := gb143) kA hb); have n2_ := Aside0.mk (below_step bA hb); have n3_ := Aside0.mk (hbox); have n4_ := Aside0.mk (gwA hg bA); have n5_ := Aside0.mk (gwA hg bA); have n6_ := Aside0.mk (neA (g := gb142) hg kA); have n7_ := Aside0.mk (neB (g := gb142) hg kA); have n8_ := Aside0.mk (neA (g := gb143) hg kA); have n9_ := Aside0.mk (neB (g := gb143) hg kA); clear BK142 BK143 HB; have BK142 := n0_; have BK143 := n1_; have HB := n2_; have BK149 := n3_; have GW149 := n4_; have GE149 := n5_; have NB142_149 := n6_; have NB149_142 := n7_; have NB143_149 := n8_; have NB149_143 := n9_; clear n0_ n1_ n2_ n3_ n4_ n5_ n6_ n7_ n8_ n9_ hb hbox hg
            refine hK.out _ _ ⟨(blk_cell BK142.out 0).trans rfl, (blk_cell BK142.out 1).trans rfl⟩ (fun hHeld => ?_)
            clear hK K
            refine norm_ (a' := ?_) ?_ ?_
            rotate_left
            ·show Act.put _ (some 7) _ = _
             simp only [Act.put, List.setIfInBounds_toArray, List.set_cons_zero, List.set_cons_succ, i64_w, i32_w]
             rfl
            exact norm_ (by first | (simp only [putAll, Act.put, List.setIfInBounds_toArray, List.set_cons_zero, List.set_cons_succ]; done) | (simp only [putAll, Act.put, List.setIfInBounds_toArray, List.set_cons_zero, List.set_cons_succ]; rfl)) (hJ3_9 (gb149) _ ⟨hHeld, kA, kA, kA, GW149.out, GE149.out, NB142_149.out, NB149_142.out, NB143_149.out, NB149_143.out, bA⟩)
         ·skip
          rintro ⟨gb148, gb149⟩ w12 ⟨hS_, h0_, h1_, h2_, h3_, h4_, h5_, h6_, h7_, h8_, h9_, h10_, h11_, h12_, h13_, h14_, h15_, h16_, h17_, h18_⟩
          have n0_ : Aside0 (w12.heap[gb142]? = some (.cells #[.int .u64 a0_0, .int .u64 a0_1] 76 (0, 0))) := ⟨h0_⟩
          have n1_ : Aside0 (w12.heap[gb143]? = some (.cells #[.int .u64 0, .int .u64 0] 76 (0, 0))) := ⟨h1_⟩
          have n2_ : Aside0 (w12.heap[gb148]? = some (.cells #[.int .u64 0, .int .u64 0] 76 (0, 0))) := ⟨h2_⟩
          have n3_ : Aside0 (w12.heap[gb149]? = some (.cells #[.int .u64 0, .int .u64 0] 76 (0, 0))) := ⟨h3_⟩
          have n4_ : Aside0 (w.heap.size ≤ gb148) := ⟨h4_⟩
          have n5_ : Aside0 (w.heap.size ≤ gb148) := ⟨h5_⟩
          have n6_ : Aside0 (gb142 ≠ gb148) := ⟨h6_⟩
          have n7_ : Aside0 (gb148 ≠ gb142) := ⟨h7_⟩
          have n8_ : Aside0 (gb143 ≠ gb148) := ⟨h8_⟩
          have n9_ : Aside0 (gb148 ≠ gb143) := ⟨h9_⟩
          have n10_ : Aside0 (gb149 ≠ gb148) := ⟨h10_⟩
          have n11_ : Aside0 (gb148 ≠ gb149) := ⟨h11_⟩
          have n12_ : Aside0 (w.heap.size ≤ gb149) := ⟨h12_⟩
          have n13_ : Aside0 (w.heap.size ≤ gb149) := ⟨h13_⟩
          have n14_ : Aside0 (gb142 ≠ gb149) := ⟨h14_⟩
          have n15_ : Aside0 (gb149 ≠ gb142) := ⟨h15_⟩
          have n16_ : Aside0 (gb143 ≠ gb149) := ⟨h16_⟩
          have n17_ : Aside0 (gb149 ≠ gb143) := ⟨h17_⟩
          have n18_ : Aside0 (Below w.heap.size w w12) := ⟨h18_⟩
          clear BK142 BK143 HB h0_ h1_ h2_ h3_ h4_ h5_ h6_ h7_ h8_ h9_ h10_ h11_ h12_ h13_ h14_ h15_ h16_ h17_ h18_; have BK142 := n0_; have BK143 := n1_; have BK148 := n2_; have BK149 := n3_; have GW148 := n4_; have GE148 := n5_; have NB142_148 := n6_; have NB148_142 := n7_; have NB143_148 := n8_; have NB148_143 := n9_; have NB149_148 := n10_; have NB148_149 := n11_; have GW149 := n12_; have GE149 := n13_; have NB142_149 := n14_; have NB149_142 := n15_; have NB143_149 := n16_; have NB149_143 := n17_; have HB := n18_; clear n0_ n1_ n2_ n3_ n4_ n5_ n6_ n7_ n8_ n9_ n10_ n11_ n12_ n13_ n14_ n15_ n16_ n17_ n18_
          have hHeld : w12.cell? ⟨gb142, 0, none⟩ = some (.int .u64 a0_0) ∧ w12.cell? ⟨gb142, 1, none⟩ = some (.int .u64 a0_1) := hS_
          refine norm_ (a' := ?_) ?_ ?_
          rotate_left
          ·simp only [putAll, Act.put, List.setIfInBounds_toArray, List.set_cons_zero, List.set_cons_succ]
           rfl
          refine one_ (i := 3) (N := some 11) #[true, true, true, true, true, true, true, false, true, true, false, false] rfl rfl (one_of HT_.out (by kernel_rfl)) (by decide) (fun K hK => ?_)
          refine goes_ Tryd.func42 (by kernel_rfl) rfl #[.int .u64 a0_1, .int .u64 a1] (by rfl) rfl rfl aA ?_
          with_reducible refine (wide_Mul.calls a0_1 a1 t144 t145 _ A3.out).mono ?_
          rintro e w13 ⟨rfl, hb⟩
          refine ⟨_, rfl, ?_⟩; have n0_ := Aside0.mk (blk_below (g := gb142) kA hb); have n1_ := Aside0.mk (blk_below (g := gb143) kA hb); have n2_ := Aside0.mk (blk_below (g := gb148) kA hb); have n3_ := Aside0.mk (blk_below (g := gb149) kA hb); have n4_ := Aside0.mk (below_step bA hb); clear BK142 BK143 BK148 BK149 HB; have BK142 := n0_; have BK143 := n1_; have BK148 := n2_; have BK149 := n3_; have HB := n4_; clear n0_ n1_ n2_ n3_ n4_; (try clear hb)
          refine hK.out _ _ ⟨(blk_cell BK142.out 0).trans rfl, (blk_cell BK142.out 1).trans rfl⟩ (fun hHeld => ?_)
          clear hK K
          refine norm_ (a' := ?_) ?_ ?_
          rotate_left
          ·show Act.put _ (some 11) _ = _
           simp only [Act.put, List.setIfInBounds_toArray, List.set_cons_zero, List.set_cons_succ, i64_w, i32_w]
           rfl
          exact norm_ (by first | (simp only [putAll, Act.put, List.setIfInBounds_toArray, List.set_cons_zero, List.set_cons_succ]; done) | (simp only [putAll, Act.put, List.setIfInBounds_toArray, List.set_cons_zero, List.set_cons_succ]; rfl)) (hJ3_8_9 (gb148, gb149) _ ⟨hHeld, kA, kA, kA, kA, GW148.out, GE148.out, NB142_148.out, NB148_142.out, NB143_148.out, NB148_143.out, NB149_148.out, NB148_149.out, GW149.out, GE149.out, NB142_149.out, NB149_142.out, NB143_149.out, NB149_143.out, bA⟩)
        ·skip
         rintro gb149 w12 ⟨hS_, h0_, h1_, h2_, h3_, h4_, h5_, h6_, h7_, h8_, h9_⟩
         have n0_ : Aside0 (w12.heap[gb142]? = some (.cells #[.int .u64 a0_0, .int .u64 a0_1] 76 (0, 0))) := ⟨h0_⟩
         have n1_ : Aside0 (w12.heap[gb143]? = some (.cells #[.int .u64 0, .int .u64 0] 76 (0, 0))) := ⟨h1_⟩
         have n2_ : Aside0 (w12.heap[gb149]? = some (.cells #[.int .u64 0, .int .u64 0] 76 (0, 0))) := ⟨h2_⟩
         have n3_ : Aside0 (w.heap.size ≤ gb149) := ⟨h3_⟩
         have n4_ : Aside0 (w.heap.size ≤ gb149) := ⟨h4_⟩
         have n5_ : Aside0 (gb142 ≠ gb149) := ⟨h5_⟩
         have n6_ : Aside0 (gb149 ≠ gb142) := ⟨h6_⟩
         have n7_ : Aside0 (gb143 ≠ gb149) := ⟨h7_⟩
         have n8_ : Aside0 (gb149 ≠ gb143) := ⟨h8_⟩
         have n9_ : Aside0 (Below w.heap.size w w12) := ⟨h9_⟩
         clear BK142 BK143 HB h0_ h1_ h2_ h3_ h4_ h5_ h6_ h7_ h8_ h9_; have BK142 := n0_; have BK143 := n1_; have BK149 := n2_; have GW149 := n3_; have GE149 := n4_; have NB142_149 := n5_; have NB149_142 := n6_; have NB143_149 := n7_; have NB149_143 := n8_; have HB := n9_; clear n0_ n1_ n2_ n3_ n4_ n5_ n6_ n7_ n8_ n9_
         have hHeld : w12.cell? ⟨gb142, 0, none⟩ = some (.int .u64 a0_0) ∧ w12.cell? ⟨gb142, 1, none⟩ = some (.int .u64 a0_1) := hS_
         refine norm_ (a' := ?_) ?_ ?_
         rotate_left
         ·simp only [putAll, Act.put, List.setIfInBounds_toArray, List.set_cons_zero, List.set_cons_succ]
          rfl
         refine two_ (i := 7) (j := 8) (Ni := some 15) (Nj := some 6) #[true, true, true, true, true, true, true, true, false, true, false, false] #[true, true, true, true, true, true, true, false, true, true, false, false] rfl rfl rfl rfl (two_of HT_.out (by kernel_rfl)) (by decide) (by decide) (fun K hK => ?_) (fun K hK => ?_)
         ·skip
          refine goes_ Tryd.func42 (by kernel_rfl) rfl #[.int .u64 a0_0, .int .u64 a1] (by rfl) rfl rfl aA ?_
          with_reducible refine (wide_Mul.calls a0_0 a1 t146 t147 _ A4.out).mono ?_
          rintro e w13 ⟨rfl, hb⟩
          refine ⟨_, rfl, ?_⟩; have n0_ := Aside0.mk (blk_below (g := gb142) kA hb); have n1_ := Aside0.mk (blk_below (g := gb143) kA hb); have n2_ := Aside0.mk (blk_below (g := gb149) kA hb); have n3_ := Aside0.mk (below_step bA hb); clear BK142 BK143 BK149 HB; have BK142 := n0_; have BK143 := n1_; have BK149 := n2_; have HB := n3_; clear n0_ n1_ n2_ n3_; (try clear hb)
          refine hK.out _ _ ⟨(blk_cell BK142.out 0).trans rfl, (blk_cell BK142.out 1).trans rfl⟩ (fun hHeld => ?_)
          clear hK K
          refine norm_ (a' := ?_) ?_ ?_
          rotate_left
          ·show Act.put _ (some 15) _ = _
           simp only [Act.put, List.setIfInBounds_toArray, List.set_cons_zero, List.set_cons_succ, i64_w, i32_w]
           rfl
          exact norm_ (by first | (simp only [putAll, Act.put, List.setIfInBounds_toArray, List.set_cons_zero, List.set_cons_succ]; done) | (simp only [putAll, Act.put, List.setIfInBounds_toArray, List.set_cons_zero, List.set_cons_succ]; rfl)) (hJ3_7_9 (gb149) _ ⟨hHeld, kA, kA, kA, GW149.out, GE149.out, NB142_149.out, NB149_142.out, NB143_149.out, NB149_143.out, bA⟩)
         ·skip
          refine box_step ?hg (N := 6) ?hd (cs := #[.int .u64 0, .int .u64 0]) (t := 76) ?hr ?_; (case hd => rfl); (case hg => rfl); (case hr => first | (go_simp; done) | (go_simp; rfl))
          intro gb148 hg w13 hbox hb
          have n0_ := Aside0.mk (blk_below (g := gb142) kA hb); have n1_ := Aside0.mk (blk_below (g := gb143) kA hb); have n2_ := Aside0.mk (blk_below (g := gb149) kA hb); have n3_ := Aside0.mk (below_step bA hb); have n4_ := Aside0.mk (hbox); have n5_ := Aside0.mk (gwA hg bA); have n6_ := Aside0.mk (gwA hg bA); have n7_ := Aside0.mk (neA (g := gb142) hg kA); have n8_ := Aside0.mk (neB (g := gb142) hg kA); have n9_ := Aside0.mk (neA (g := gb143) hg kA); have n10_ := Aside0.mk (neB (g := gb143) hg kA); have n11_ := Aside0.mk (neA (g := gb149) hg kA); have n12_ := Aside0.mk (neB (g := gb149) hg kA); clear BK142 BK143 BK149 HB; have BK142 := n0_; have BK143 := n1_; have BK149 := n2_; have HB := n3_; have BK148 := n4_; have GW148 := n5_; have GE148 := n6_; have NB142_148 := n7_; have NB148_142 := n8_; have NB143_148 := n9_; have NB148_143 := n10_; have NB149_148 := n11_; have NB148_149 := n12_; clear n0_ n1_ n2_ n3_ n4_ n5_ n6_ n7_ n8_ n9_ n10_ n11_ n12_ hb hbox hg
          refine hK.out _ _ ⟨(blk_cell BK142.out 0).trans rfl, (blk_cell BK142.out 1).trans rfl⟩ (fun hHeld => ?_)
          clear hK K
          refine norm_ (a' := ?_) ?_ ?_
          rotate_left
          ·show Act.put _ (some 6) _ = _
           simp only [Act.put, List.setIfInBounds_toArray, List.set_cons_zero, List.set_cons_succ, i64_w, i32_w]
           rfl
          exact norm_ (by first | (simp only [putAll, Act.put, List.setIfInBounds_toArray, List.set_cons_zero, List.set_cons_succ]; done) | (simp only [putAll, Act.put, List.setIfInBounds_toArray, List.set_cons_zero, List.set_cons_succ]; rfl)) (hJ3_8_9 (gb148, gb149) _ ⟨hHeld, kA, kA, kA, kA, GW148.out, GE148.out, NB142_148.out, NB148_142.out, NB143_148.out, NB148_143.out, NB149_148.out, NB148_149.out, GW149.out, GE149.out, NB142_149.out, NB149_142.out, NB143_149.out, NB149_143.out, bA⟩)
       ·skip
        rintro gb148 w12 ⟨hS_, h0_, h1_, h2_, h3_, h4_, h5_, h6_, h7_, h8_, h9_⟩
        have n0_ : Aside0 (w12.heap[gb142]? = some (.cells #[.int .u64 a0_0, .int .u64 a0_1] 76 (0, 0))) := ⟨h0_⟩
        have n1_ : Aside0 (w12.heap[gb143]? = some (.cells #[.int .u64 0, .int .u64 0] 76 (0, 0))) := ⟨h1_⟩
        have n2_ : Aside0 (w12.heap[gb148]? = some (.cells #[.int .u64 0, .int .u64 0] 76 (0, 0))) := ⟨h2_⟩
        have n3_ : Aside0 (w.heap.size ≤ gb148) := ⟨h3_⟩
        have n4_ : Aside0 (w.heap.size ≤ gb148) := ⟨h4_⟩
        have n5_ : Aside0 (gb142 ≠ gb148) := ⟨h5_⟩
        have n6_ : Aside0 (gb148 ≠ gb142) := ⟨h6_⟩
        have n7_ : Aside0 (gb143 ≠ gb148) := ⟨h7_⟩
        have n8_ : Aside0 (gb148 ≠ gb143) := ⟨h8_⟩
        have n9_ : Aside0 (Below w.heap.size w w12) := ⟨h9_⟩
        clear BK142 BK143 HB h0_ h1_ h2_ h3_ h4_ h5_ h6_ h7_ h8_ h9_; have BK142 := n0_; have BK143 := n1_; have BK148 := n2_; have GW148 := n3_; have GE148 := n4_; have NB142_148 := n5_; have NB148_142 := n6_; have NB143_148 := n7_; have NB148_143 := n8_; have HB := n9_; clear n0_ n1_ n2_ n3_ n4_ n5_ n6_ n7_ n8_ n9_
        have hHeld : w12.cell? ⟨gb142, 0, none⟩ = some (.int .u64 a0_0) ∧ w12.cell? ⟨gb142, 1, none⟩ = some (.int .u64 a0_1) := hS_
        refine norm_ (a' := ?_) ?_ ?_
        rotate_left
        ·simp only [putAll, Act.put, List.setIfInBounds_toArray, List.set_cons_zero, List.set_cons_succ]
         rfl
        refine two_ (i := 7) (j := 9) (Ni := some 15) (Nj := some 7) #[true, true, true, true, true, true, true, true, true, false, false, false] #[true, true, true, true, true, true, true, false, true, true, false, false] rfl rfl rfl rfl (two_of HT_.out (by kernel_rfl)) (by decide) (by decide) (fun K hK => ?_) (fun K hK => ?_)
        ·skip
         refine goes_ Tryd.func42 (by kernel_rfl) rfl #[.int .u64 a0_0, .int .u64 a1] (by rfl) rfl rfl aA ?_
         with_reducible refine (wide_Mul.calls a0_0 a1 t146 t147 _ A4.out).mono ?_
         rintro e w13 ⟨rfl, hb⟩
         refine ⟨_, rfl, ?_⟩; have n0_ := Aside0.mk (blk_below (g := gb142) kA hb); have n1_ := Aside0.mk (blk_below (g := gb143) kA hb); have n2_ := Aside0.mk (blk_below (g := gb148) kA hb); have n3_ := Aside0.mk (below_step bA hb); clear BK142 BK143 BK148 HB; have BK142 := n0_; have BK143 := n1_; have BK148 := n2_; have HB := n3_; clear n0_ n1_ n2_ n3_; (try clear hb)
         refine hK.out _ _ ⟨(blk_cell BK142.out 0).trans rfl, (blk_cell BK142.out 1).trans rfl⟩ (fun hHeld => ?_)
         clear hK K
         refine norm_ (a' := ?_) ?_ ?_
         rotate_left
         ·show Act.put _ (some 15) _ = _
          simp only [Act.put, List.setIfInBounds_toArray, List.set_cons_zero, List.set_cons_succ, i64_w, i32_w]
          rfl
         exact norm_ (by first | (simp only [putAll, Act.put, List.setIfInBounds_toArray, List.set_cons_zero, List.set_cons_succ]; done) | (simp only [putAll, Act.put, List.setIfInBounds_toArray, List.set_cons_zero, List.set_cons_succ]; rfl)) (hJ3_7_8 (gb148) _ ⟨hHeld, kA, kA, kA, GW148.out, GE148.out, NB142_148.out, NB148_142.out, NB143_148.out, NB148_143.out, bA⟩)
        ·skip
         refine box_step ?hg (N := 7) ?hd (cs := #[.int .u64 0, .int .u64 0]) (t := 76) ?hr ?_; (case hd => rfl); (case hg => rfl); (case hr => first | (go_simp; done) | (go_simp; rfl))
         intro gb149 hg w13 hbox hb
         have n0_ := Aside0.mk (blk_below (g := gb142) kA hb); have n1_ := Aside0.mk (blk_below (g := gb143) kA hb); have n2_ := Aside0.mk (blk_below (g := gb148) kA hb); have n3_ := Aside0.mk (below_step bA hb); have n4_ := Aside0.mk (hbox); have n5_ := Aside0.mk (gwA hg bA); have n6_ := Aside0.mk (gwA hg bA); have n7_ := Aside0.mk (neA (g := gb142) hg kA); have n8_ := Aside0.mk (neB (g := gb142) hg kA); have n9_ := Aside0.mk (neA (g := gb143) hg kA); have n10_ := Aside0.mk (neB (g := gb143) hg kA); have n11_ := Aside0.mk (neA (g := gb148) hg kA); have n12_ := Aside0.mk (neB (g := gb148) hg kA); clear BK142 BK143 BK148 HB; have BK142 := n0_; have BK143 := n1_; have BK148 := n2_; have HB := n3_; have BK149 := n4_; have GW149 := n5_; have GE149 := n6_; have NB142_149 := n7_; have NB149_142 := n8_; have NB143_149 := n9_; have NB149_143 := n10_; have NB148_149 := n11_; have NB149_148 := n12_; clear n0_ n1_ n2_ n3_ n4_ n5_ n6_ n7_ n8_ n9_ n10_ n11_ n12_ hb hbox hg
         refine hK.out _ _ ⟨(blk_cell BK142.out 0).trans rfl, (blk_cell BK142.out 1).trans rfl⟩ (fun hHeld => ?_)
         clear hK K
         refine norm_ (a' := ?_) ?_ ?_
         rotate_left
         ·show Act.put _ (some 7) _ = _
          simp only [Act.put, List.setIfInBounds_toArray, List.set_cons_zero, List.set_cons_succ, i64_w, i32_w]
          rfl
         exact norm_ (by first | (simp only [putAll, Act.put, List.setIfInBounds_toArray, List.set_cons_zero, List.set_cons_succ]; done) | (simp only [putAll, Act.put, List.setIfInBounds_toArray, List.set_cons_zero, List.set_cons_succ]; rfl)) (hJ3_8_9 (gb148, gb149) _ ⟨hHeld, kA, kA, kA, kA, GW148.out, GE148.out, NB142_148.out, NB148_142.out, NB143_148.out, NB148_143.out, NB149_148.out, NB148_149.out, GW149.out, GE149.out, NB142_149.out, NB149_142.out, NB143_149.out, NB149_143.out, bA⟩)
      ·skip
       rintro _ w12 ⟨hS_, h0_, h1_, h2_⟩
       have n0_ : Aside0 (w12.heap[gb142]? = some (.cells #[.int .u64 a0_0, .int .u64 a0_1] 76 (0, 0))) := ⟨h0_⟩
       have n1_ : Aside0 (w12.heap[gb143]? = some (.cells #[.int .u64 0, .int .u64 0] 76 (0, 0))) := ⟨h1_⟩
       have n2_ : Aside0 (Below w.heap.size w w12) := ⟨h2_⟩
       clear BK142 BK143 HB h0_ h1_ h2_; have BK142 := n0_; have BK143 := n1_; have HB := n2_; clear n0_ n1_ n2_
       have hHeld : w12.cell? ⟨gb142, 0, none⟩ = some (.int .u64 a0_0) ∧ w12.cell? ⟨gb142, 1, none⟩ = some (.int .u64 a0_1) := hS_
       refine norm_ (a' := ?_) ?_ ?_
       rotate_left
       ·simp only [putAll, Act.put, List.setIfInBounds_toArray, List.set_cons_zero, List.set_cons_succ]
        rfl
       refine two_ (i := 8) (j := 9) (Ni := some 6) (Nj := some 7) #[true, true, true, true, true, true, true, true, true, false, false, false] #[true, true, true, true, true, true, true, true, false, true, false, false] rfl rfl rfl rfl (two_of HT_.out (by kernel_rfl)) (by decide) (by decide) (fun K hK => ?_) (fun K hK => ?_)
       ·skip
        refine box_step ?hg (N := 6) ?hd (cs := #[.int .u64 0, .int .u64 0]) (t := 76) ?hr ?_; (case hd => rfl); (case hg => rfl); (case hr => first | (go_simp; done) | (go_simp; rfl))
        intro gb148 hg w13 hbox hb
        have n0_ := Aside0.mk (blk_below (g := gb142) kA hb); have n1_ := Aside0.mk (blk_below (g := gb143) kA hb); have n2_ := Aside0.mk (below_step bA hb); have n3_ := Aside0.mk (hbox); have n4_ := Aside0.mk (gwA hg bA); have n5_ := Aside0.mk (gwA hg bA); have n6_ := Aside0.mk (neA (g := gb142) hg kA); have n7_ := Aside0.mk (neB (g := gb142) hg kA); have n8_ := Aside0.mk (neA (g := gb143) hg kA); have n9_ := Aside0.mk (neB (g := gb143) hg kA); clear BK142 BK143 HB; have BK142 := n0_; have BK143 := n1_; have HB := n2_; have BK148 := n3_; have GW148 := n4_; have GE148 := n5_; have NB142_148 := n6_; have NB148_142 := n7_; have NB143_148 := n8_; have NB148_143 := n9_; clear n0_ n1_ n2_ n3_ n4_ n5_ n6_ n7_ n8_ n9_ hb hbox hg
        refine hK.out _ _ ⟨(blk_cell BK142.out 0).trans rfl, (blk_cell BK142.out 1).trans rfl⟩ (fun hHeld => ?_)
        clear hK K
        refine norm_ (a' := ?_) ?_ ?_
        rotate_left
        ·show Act.put _ (some 6) _ = _
         simp only [Act.put, List.setIfInBounds_toArray, List.set_cons_zero, List.set_cons_succ, i64_w, i32_w]
         rfl
        exact norm_ (by first | (simp only [putAll, Act.put, List.setIfInBounds_toArray, List.set_cons_zero, List.set_cons_succ]; done) | (simp only [putAll, Act.put, List.setIfInBounds_toArray, List.set_cons_zero, List.set_cons_succ]; rfl)) (hJ3_7_8 (gb148) _ ⟨hHeld, kA, kA, kA, GW148.out, GE148.out, NB142_148.out, NB148_142.out, NB143_148.out, NB148_143.out, bA⟩)
       ·skip
        refine box_step ?hg (N := 7) ?hd (cs := #[.int .u64 0, .int .u64 0]) (t := 76) ?hr ?_; (case hd => rfl); (case hg => rfl); (case hr => first | (go_simp; done) | (go_simp; rfl))
        intro gb149 hg w13 hbox hb
        have n0_ := Aside0.mk (blk_below (g := gb142) kA hb); have n1_ := Aside0.mk (blk_below (g := gb143) kA hb); have n2_ := Aside0.mk (below_step bA hb); have n3_ := Aside0.mk (hbox); have n4_ := Aside0.mk (gwA hg bA); have n5_ := Aside0.mk (gwA hg bA); have n6_ := Aside0.mk (neA (g := gb142) hg kA); have n7_ := Aside0.mk (neB (g := gb142) hg kA); have n8_ := Aside0.mk (neA (g := gb143) hg kA); have n9_ := Aside0.mk (neB (g := gb143) hg kA); clear BK142 BK143 HB; have BK142 := n0_; have BK143 := n1_; have HB := n2_; have BK149 := n3_; have GW149 := n4_; have GE149 := n5_; have NB142_149 := n6_; have NB149_142 := n7_; have NB143_149 := n8_; have NB149_143 := n9_; clear n0_ n1_ n2_ n3_ n4_ n5_ n6_ n7_ n8_ n9_ hb hbox hg
        refine hK.out _ _ ⟨(blk_cell BK142.out 0).trans rfl, (blk_cell BK142.out 1).trans rfl⟩ (fun hHeld => ?_)
        clear hK K
        refine norm_ (a' := ?_) ?_ ?_
        rotate_left
        ·show Act.put _ (some 7) _ = _
         simp only [Act.put, List.setIfInBounds_toArray, List.set_cons_zero, List.set_cons_succ, i64_w, i32_w]
         rfl
        exact norm_ (by first | (simp only [putAll, Act.put, List.setIfInBounds_toArray, List.set_cons_zero, List.set_cons_succ]; done) | (simp only [putAll, Act.put, List.setIfInBounds_toArray, List.set_cons_zero, List.set_cons_succ]; rfl)) (hJ3_7_9 (gb149) _ ⟨hHeld, kA, kA, kA, GW149.out, GE149.out, NB142_149.out, NB149_142.out, NB143_149.out, NB149_143.out, bA⟩)
     ·skip
      rintro ⟨gb148, gb149⟩ w13 ⟨hS_, h0_, h1_, h2_, h3_, h4_, h5_, h6_, h7_, h8_, h9_, h10_, h11_, h12_, h13_, h14_, h15_, h16_, h17_, h18_⟩
      have n0_ : Aside0 (w13.heap[gb142]? = some (.cells #[.int .u64 a0_0, .int .u64 a0_1] 76 (0, 0))) := ⟨h0_⟩
      have n1_ : Aside0 (w13.heap[gb143]? = some (.cells #[.int .u64 0, .int .u64 0] 76 (0, 0))) := ⟨h1_⟩
      have n2_ : Aside0 (w13.heap[gb148]? = some (.cells #[.int .u64 0, .int .u64 0] 76 (0, 0))) := ⟨h2_⟩
      have n3_ : Aside0 (w13.heap[gb149]? = some (.cells #[.int .u64 0, .int .u64 0] 76 (0, 0))) := ⟨h3_⟩
      have n4_ : Aside0 (w.heap.size ≤ gb148) := ⟨h4_⟩
      have n5_ : Aside0 (w.heap.size ≤ gb148) := ⟨h5_⟩
      have n6_ : Aside0 (gb142 ≠ gb148) := ⟨h6_⟩
      have n7_ : Aside0 (gb148 ≠ gb142) := ⟨h7_⟩
      have n8_ : Aside0 (gb143 ≠ gb148) := ⟨h8_⟩
      have n9_ : Aside0 (gb148 ≠ gb143) := ⟨h9_⟩
      have n10_ : Aside0 (gb149 ≠ gb148) := ⟨h10_⟩
      have n11_ : Aside0 (gb148 ≠ gb149) := ⟨h11_⟩
      have n12_ : Aside0 (w.heap.size ≤ gb149) := ⟨h12_⟩
      have n13_ : Aside0 (w.heap.size ≤ gb149) := ⟨h13_⟩
      have n14_ : Aside0 (gb142 ≠ gb149) := ⟨h14_⟩
      have n15_ : Aside0 (gb149 ≠ gb142) := ⟨h15_⟩
      have n16_ : Aside0 (gb143 ≠ gb149) := ⟨h16_⟩
      have n17_ : Aside0 (gb149 ≠ gb143) := ⟨h17_⟩
      have n18_ : Aside0 (Below w.heap.size w w13) := ⟨h18_⟩
      clear BK142 BK143 HB h0_ h1_ h2_ h3_ h4_ h5_ h6_ h7_ h8_ h9_ h10_ h11_ h12_ h13_ h14_ h15_ h16_ h17_ h18_; have BK142 := n0_; have BK143 := n1_; have BK148 := n2_; have BK149 := n3_; have GW148 := n4_; have GE148 := n5_; have NB142_148 := n6_; have NB148_142 := n7_; have NB143_148 := n8_; have NB148_143 := n9_; have NB149_148 := n10_; have NB148_149 := n11_; have GW149 := n12_; have GE149 := n13_; have NB142_149 := n14_; have NB149_142 := n15_; have NB143_149 := n16_; have NB149_143 := n17_; have HB := n18_; clear n0_ n1_ n2_ n3_ n4_ n5_ n6_ n7_ n8_ n9_ n10_ n11_ n12_ n13_ n14_ n15_ n16_ n17_ n18_
      have hHeld : w13.cell? ⟨gb142, 0, none⟩ = some (.int .u64 a0_0) ∧ w13.cell? ⟨gb142, 1, none⟩ = some (.int .u64 a0_1) := hS_
      refine norm_ (a' := ?_) ?_ ?_
      rotate_left
      ·simp only [putAll, Act.put, List.setIfInBounds_toArray, List.set_cons_zero, List.set_cons_succ]
       rfl
      refine one_ (i := 7) (N := some 15) #[true, true, true, true, true, true, true, true, true, true, false, false] rfl rfl (one_of HT_.out (by kernel_rfl)) (by decide) (fun K hK => ?_)
      refine goes_ Tryd.func42 (by kernel_rfl) rfl #[.int .u64 a0_0, .int .u64 a1] (by rfl) rfl rfl aA ?_
      with_reducible refine (wide_Mul.calls a0_0 a1 t146 t147 _ A4.out).mono ?_
      rintro e w14 ⟨rfl, hb⟩
      refine ⟨_, rfl, ?_⟩; have n0_ := Aside0.mk (blk_below (g := gb142) kA hb); have n1_ := Aside0.mk (blk_below (g := gb143) kA hb); have n2_ := Aside0.mk (blk_below (g := gb148) kA hb); have n3_ := Aside0.mk (blk_below (g := gb149) kA hb); have n4_ := Aside0.mk (below_step bA hb); clear BK142 BK143 BK148 BK149 HB; have BK142 := n0_; have BK143 := n1_; have BK148 := n2_; have BK149 := n3_; have HB := n4_; clear n0_ n1_ n2_ n3_ n4_; (try clear hb)
      refine hK.out _ _ ⟨(blk_cell BK142.out 0).trans rfl, (blk_cell BK142.out 1).trans rfl⟩ (fun hHeld => ?_)
      clear hK K
      refine norm_ (a' := ?_) ?_ ?_
      rotate_left
      ·show Act.put _ (some 15) _ = _
       simp only [Act.put, List.setIfInBounds_toArray, List.set_cons_zero, List.set_cons_succ, i64_w, i32_w]
       rfl
      exact norm_ (by first | (simp only [putAll, Act.put, List.setIfInBounds_toArray, List.set_cons_zero, List.set_cons_succ]; done) | (simp only [putAll, Act.put, List.setIfInBounds_toArray, List.set_cons_zero, List.set_cons_succ]; rfl)) (hJ3_7_8_9 (gb148, gb149) _ ⟨hHeld, kA, kA, kA, kA, GW148.out, GE148.out, NB142_148.out, NB148_142.out, NB143_148.out, NB148_143.out, NB149_148.out, NB148_149.out, GW149.out, GE149.out, NB142_149.out, NB149_142.out, NB143_149.out, NB149_143.out, bA⟩)
    ·skip
     rintro gb149 w13 ⟨hS_, h0_, h1_, h2_, h3_, h4_, h5_, h6_, h7_, h8_, h9_⟩
     have n0_ : Aside0 (w13.heap[gb142]? = some (.cells #[.int .u64 a0_0, .int .u64 a0_1] 76 (0, 0))) := ⟨h0_⟩
     have n1_ : Aside0 (w13.heap[gb143]? = some (.cells #[.int .u64 0, .int .u64 0] 76 (0, 0))) := ⟨h1_⟩
     have n2_ : Aside0 (w13.heap[gb149]? = some (.cells #[.int .u64 0, .int .u64 0] 76 (0, 0))) := ⟨h2_⟩
     have n3_ : Aside0 (w.heap.size ≤ gb149) := ⟨h3_⟩
     have n4_ : Aside0 (w.heap.size ≤ gb149) := ⟨h4_⟩
     have n5_ : Aside0 (gb142 ≠ gb149) := ⟨h5_⟩
     have n6_ : Aside0 (gb149 ≠ gb142) := ⟨h6_⟩
     have n7_ : Aside0 (gb143 ≠ gb149) := ⟨h7_⟩
     have n8_ : Aside0 (gb149 ≠ gb143) := ⟨h8_⟩
     have n9_ : Aside0 (Below w.heap.size w w13) := ⟨h9_⟩
     clear BK142 BK143 HB h0_ h1_ h2_ h3_ h4_ h5_ h6_ h7_ h8_ h9_; have BK142 := n0_; have BK143 := n1_; have BK149 := n2_; have GW149 := n3_; have GE149 := n4_; have NB142_149 := n5_; have NB149_142 := n6_; have NB143_149 := n7_; have NB149_143 := n8_; have HB := n9_; clear n0_ n1_ n2_ n3_ n4_ n5_ n6_ n7_ n8_ n9_
     have hHeld : w13.cell? ⟨gb142, 0, none⟩ = some (.int .u64 a0_0) ∧ w13.cell? ⟨gb142, 1, none⟩ = some (.int .u64 a0_1) := hS_
     refine norm_ (a' := ?_) ?_ ?_
     rotate_left
     ·simp only [putAll, Act.put, List.setIfInBounds_toArray, List.set_cons_zero, List.set_cons_succ]
      rfl
     refine one_ (i := 8) (N := some 6) #[true, true, true, true, true, true, true, true, true, true, false, false] rfl rfl (one_of HT_.out (by kernel_rfl)) (by decide) (fun K hK => ?_)
     refine box_step ?hg (N := 6) ?hd (cs := #[.int .u64 0, .int .u64 0]) (t := 76) ?hr ?_; (case hd => rfl); (case hg => rfl); (case hr => first | (go_simp; done) | (go_simp; rfl))
     intro gb148 hg w14 hbox hb
     have n0_ := Aside0.mk (blk_below (g := gb142) kA hb); have n1_ := Aside0.mk (blk_below (g := gb143) kA hb); have n2_ := Aside0.mk (blk_below (g := gb149) kA hb); have n3_ := Aside0.mk (below_step bA hb); have n4_ := Aside0.mk (hbox); have n5_ := Aside0.mk (gwA hg bA); have n6_ := Aside0.mk (gwA hg bA); have n7_ := Aside0.mk (neA (g := gb142) hg kA); have n8_ := Aside0.mk (neB (g := gb142) hg kA); have n9_ := Aside0.mk (neA (g := gb143) hg kA); have n10_ := Aside0.mk (neB (g := gb143) hg kA); have n11_ := Aside0.mk (neA (g := gb149) hg kA); have n12_ := Aside0.mk (neB (g := gb149) hg kA); clear BK142 BK143 BK149 HB; have BK142 := n0_; have BK143 := n1_; have BK149 := n2_; have HB := n3_; have BK148 := n4_; have GW148 := n5_; have GE148 := n6_; have NB142_148 := n7_; have NB148_142 := n8_; have NB143_148 := n9_; have NB148_143 := n10_; have NB149_148 := n11_; have NB148_149 := n12_; clear n0_ n1_ n2_ n3_ n4_ n5_ n6_ n7_ n8_ n9_ n10_ n11_ n12_ hb hbox hg
     refine hK.out _ _ ⟨(blk_cell BK142.out 0).trans rfl, (blk_cell BK142.out 1).trans rfl⟩ (fun hHeld => ?_)
     clear hK K
     refine norm_ (a' := ?_) ?_ ?_
     rotate_left
     ·show Act.put _ (some 6) _ = _
      simp only [Act.put, List.setIfInBounds_toArray, List.set_cons_zero, List.set_cons_succ, i64_w, i32_w]
      rfl
     exact norm_ (by first | (simp only [putAll, Act.put, List.setIfInBounds_toArray, List.set_cons_zero, List.set_cons_succ]; done) | (simp only [putAll, Act.put, List.setIfInBounds_toArray, List.set_cons_zero, List.set_cons_succ]; rfl)) (hJ3_7_8_9 (gb148, gb149) _ ⟨hHeld, kA, kA, kA, kA, GW148.out, GE148.out, NB142_148.out, NB148_142.out, NB143_148.out, NB148_143.out, NB149_148.out, NB148_149.out, GW149.out, GE149.out, NB142_149.out, NB149_142.out, NB143_149.out, NB149_143.out, bA⟩)
   ·skip
    rintro gb148 w13 ⟨hS_, h0_, h1_, h2_, h3_, h4_, h5_, h6_, h7_, h8_, h9_⟩
    have n0_ : Aside0 (w13.heap[gb142]? = some (.cells #[.int .u64 a0_0, .int .u64 a0_1] 76 (0, 0))) := ⟨h0_⟩
    have n1_ : Aside0 (w13.heap[gb143]? = some (.cells #[.int .u64 0, .int .u64 0] 76 (0, 0))) := ⟨h1_⟩
    have n2_ : Aside0 (w13.heap[gb148]? = some (.cells #[.int .u64 0, .int .u64 0] 76 (0, 0))) := ⟨h2_⟩
    have n3_ : Aside0 (w.heap.size ≤ gb148) := ⟨h3_⟩
    have n4_ : Aside0 (w.heap.size ≤ gb148) := ⟨h4_⟩
    have n5_ : Aside0 (gb142 ≠ gb148) := ⟨h5_⟩
    have n6_ : Aside0 (gb148 ≠ gb142) := ⟨h6_⟩
    have n7_ : Aside0 (gb143 ≠ gb148) := ⟨h7_⟩
    have n8_ : Aside0 (gb148 ≠ gb143) := ⟨h8_⟩
    have n9_ : Aside0 (Below w.heap.size w w13) := ⟨h9_⟩
    clear BK142 BK143 HB h0_ h1_ h2_ h3_ h4_ h5_ h6_ h7_ h8_ h9_; have BK142 := n0_; have BK143 := n1_; have BK148 := n2_; have GW148 := n3_; have GE148 := n4_; have NB142_148 := n5_; have NB148_142 := n6_; have NB143_148 := n7_; have NB148_143 := n8_; have HB := n9_; clear n0_ n1_ n2_ n3_ n4_ n5_ n6_ n7_ n8_ n9_
    have hHeld : w13.cell? ⟨gb142, 0, none⟩ = some (.int .u64 a0_0) ∧ w13.cell? ⟨gb142, 1, none⟩ = some (.int .u64 a0_1) := hS_
    refine norm_ (a' := ?_) ?_ ?_
    rotate_left
    ·simp only [putAll, Act.put, List.setIfInBounds_toArray, List.set_cons_zero, List.set_cons_succ]
     rfl
    refine one_ (i := 9) (N := some 7) #[true, true, true, true, true, true, true, true, true, true, false, false] rfl rfl (one_of HT_.out (by kernel_rfl)) (by decide) (fun K hK => ?_)
    refine box_step ?hg (N := 7) ?hd (cs := #[.int .u64 0, .int .u64 0]) (t := 76) ?hr ?_; (case hd => rfl); (case hg => rfl); (case hr => first | (go_simp; done) | (go_simp; rfl))
    intro gb149 hg w14 hbox hb
    have n0_ := Aside0.mk (blk_below (g := gb142) kA hb); have n1_ := Aside0.mk (blk_below (g := gb143) kA hb); have n2_ := Aside0.mk (blk_below (g := gb148) kA hb); have n3_ := Aside0.mk (below_step bA hb); have n4_ := Aside0.mk (hbox); have n5_ := Aside0.mk (gwA hg bA); have n6_ := Aside0.mk (gwA hg bA); have n7_ := Aside0.mk (neA (g := gb142) hg kA); have n8_ := Aside0.mk (neB (g := gb142) hg kA); have n9_ := Aside0.mk (neA (g := gb143) hg kA); have n10_ := Aside0.mk (neB (g := gb143) hg kA); have n11_ := Aside0.mk (neA (g := gb148) hg kA); have n12_ := Aside0.mk (neB (g := gb148) hg kA); clear BK142 BK143 BK148 HB; have BK142 := n0_; have BK143 := n1_; have BK148 := n2_; have HB := n3_; have BK149 := n4_; have GW149 := n5_; have GE149 := n6_; have NB142_149 := n7_; have NB149_142 := n8_; have NB143_149 := n9_; have NB149_143 := n10_; have NB148_149 := n11_; have NB149_148 := n12_; clear n0_ n1_ n2_ n3_ n4_ n5_ n6_ n7_ n8_ n9_ n10_ n11_ n12_ hb hbox hg
    refine hK.out _ _ ⟨(blk_cell BK142.out 0).trans rfl, (blk_cell BK142.out 1).trans rfl⟩ (fun hHeld => ?_)
    clear hK K
    refine norm_ (a' := ?_) ?_ ?_
    rotate_left
    ·show Act.put _ (some 7) _ = _
     simp only [Act.put, List.setIfInBounds_toArray, List.set_cons_zero, List.set_cons_succ, i64_w, i32_w]
     rfl
    exact norm_ (by first | (simp only [putAll, Act.put, List.setIfInBounds_toArray, List.set_cons_zero, List.set_cons_succ]; done) | (simp only [putAll, Act.put, List.setIfInBounds_toArray, List.set_cons_zero, List.set_cons_succ]; rfl)) (hJ3_7_8_9 (gb148, gb149) _ ⟨hHeld, kA, kA, kA, kA, GW148.out, GE148.out, NB142_148.out, NB148_142.out, NB143_148.out, NB148_143.out, NB149_148.out, NB148_149.out, GW149.out, GE149.out, NB142_149.out, NB149_142.out, NB143_149.out, NB149_143.out, bA⟩)
  rintro ⟨gb148, gb149⟩ w14 ⟨hS_, h0_, h1_, h2_, h3_, h4_, h5_, h6_, h7_, h8_, h9_, h10_, h11_, h12_, h13_, h14_, h15_, h16_, h17_, h18_⟩
  have n0_ : Aside0 (w14.heap[gb142]? = some (.cells #[.int .u64 a0_0, .int .u64 a0_1] 76 (0, 0))) := ⟨h0_⟩
  have n1_ : Aside0 (w14.heap[gb143]? = some (.cells #[.int .u64 0, .int .u64 0] 76 (0, 0))) := ⟨h1_⟩
  have n2_ : Aside0 (w14.heap[gb148]? = some (.cells #[.int .u64 0, .int .u64 0] 76 (0, 0))) := ⟨h2_⟩
  have n3_ : Aside0 (w14.heap[gb149]? = some (.cells #[.int .u64 0, .int .u64 0] 76 (0, 0))) := ⟨h3_⟩
  have n4_ : Aside0 (w.heap.size ≤ gb148) := ⟨h4_⟩
  have n5_ : Aside0 (w.heap.size ≤ gb148) := ⟨h5_⟩
  have n6_ : Aside0 (gb142 ≠ gb148) := ⟨h6_⟩
  have n7_ : Aside0 (gb148 ≠ gb142) := ⟨h7_⟩
  have n8_ : Aside0 (gb143 ≠ gb148) := ⟨h8_⟩
  have n9_ : Aside0 (gb148 ≠ gb143) := ⟨h9_⟩
  have n10_ : Aside0 (gb149 ≠ gb148) := ⟨h10_⟩
  have n11_ : Aside0 (gb148 ≠ gb149) := ⟨h11_⟩
  have n12_ : Aside0 (w.heap.size ≤ gb149) := ⟨h12_⟩
  have n13_ : Aside0 (w.heap.size ≤ gb149) := ⟨h13_⟩
  have n14_ : Aside0 (gb142 ≠ gb149) := ⟨h14_⟩
  have n15_ : Aside0 (gb149 ≠ gb142) := ⟨h15_⟩
  have n16_ : Aside0 (gb143 ≠ gb149) := ⟨h16_⟩
  have n17_ : Aside0 (gb149 ≠ gb143) := ⟨h17_⟩
  have n18_ : Aside0 (Below w.heap.size w w14) := ⟨h18_⟩
  clear BK142 BK143 HB h0_ h1_ h2_ h3_ h4_ h5_ h6_ h7_ h8_ h9_ h10_ h11_ h12_ h13_ h14_ h15_ h16_ h17_ h18_; have BK142 := n0_; have BK143 := n1_; have BK148 := n2_; have BK149 := n3_; have GW148 := n4_; have GE148 := n5_; have NB142_148 := n6_; have NB148_142 := n7_; have NB143_148 := n8_; have NB148_143 := n9_; have NB149_148 := n10_; have NB148_149 := n11_; have GW149 := n12_; have GE149 := n13_; have NB142_149 := n14_; have NB149_142 := n15_; have NB143_149 := n16_; have NB149_143 := n17_; have HB := n18_; clear n0_ n1_ n2_ n3_ n4_ n5_ n6_ n7_ n8_ n9_ n10_ n11_ n12_ n13_ n14_ n15_ n16_ n17_ n18_
  have hHeld : w14.cell? ⟨gb142, 0, none⟩ = some (.int .u64 a0_0) ∧ w14.cell? ⟨gb142, 1, none⟩ = some (.int .u64 a0_1) := hS_
  refine norm_ (a' := ?_) ?_ ?_
  rotate_left
  ·simp only [putAll, Act.put, List.setIfInBounds_toArray, List.set_cons_zero, List.set_cons_succ]
   rfl
  refine one_ (i := 10) (N := none) #[true, true, true, true, true, true, true, true, true, true, true, false] rfl rfl (one_of HT_.out (by kernel_rfl)) (by decide) (fun K hK => ?_)
  have hs15 : w14.cell? ⟨gb148, 0, none⟩ = some (.int .u64 0) := (blk_cell BK148.out 0).trans rfl
  have hfs15 := blk_frozen BK148.out 0
  have hns15_0 := NB142_148.out
  have hns15_1 := NB143_148.out
  have hns15_3 := NB149_148.out
  have hms15_0 := NB148_142.out
  have hms15_1 := NB148_143.out
  have hms15_3 := NB148_149.out
  have hs16 : w14.cell? ⟨gb148, 1, none⟩ = some (.int .u64 0) := (blk_cell BK148.out 1).trans rfl
  have hfs16 := blk_frozen BK148.out 1
  have hns16_0 := NB142_148.out
  have hns16_1 := NB143_148.out
  have hns16_3 := NB149_148.out
  have hms16_0 := NB148_142.out
  have hms16_1 := NB148_143.out
  have hms16_3 := NB148_149.out
  refine skip_ (w1 := ?_) (by rfl) rfl ?_ ?_
  rotate_left
  ·go_simp
   rfl
  refine hK.out _ _ ⟨((cell_far (p := ⟨gb148, _, none⟩) NB142_148.out _).trans (((cell_far (p := ⟨gb148, _, none⟩) NB142_148.out _).trans (hHeld.1)))), ((cell_far (p := ⟨gb148, _, none⟩) NB142_148.out _).trans (((cell_far (p := ⟨gb148, _, none⟩) NB142_148.out _).trans (hHeld.2))))⟩ (fun hHeld => ?_)
  clear hK K
  refine one_ (i := 11) (N := none) #[true, true, true, true, true, true, true, true, true, true, true, true] rfl rfl (one_of HT_.out (by kernel_rfl)) (by decide) (fun K hK => ?_)
  have hs17 : w14.cell? ⟨gb149, 0, none⟩ = some (.int .u64 0) := (blk_cell BK149.out 0).trans rfl
  have hfs17 := blk_frozen BK149.out 0
  have hns17_0 := NB142_149.out
  have hns17_1 := NB143_149.out
  have hns17_2 := NB148_149.out
  have hms17_0 := NB149_142.out
  have hms17_1 := NB149_143.out
  have hms17_2 := NB149_148.out
  have hs18 : w14.cell? ⟨gb149, 1, none⟩ = some (.int .u64 0) := (blk_cell BK149.out 1).trans rfl
  have hfs18 := blk_frozen BK149.out 1
  have hns18_0 := NB142_149.out
  have hns18_1 := NB143_149.out
  have hns18_2 := NB148_149.out
  have hms18_0 := NB149_142.out
  have hms18_1 := NB149_143.out
  have hms18_2 := NB149_148.out
  refine skip_ (w1 := ?_) (by rfl) rfl ?_ ?_
  rotate_left
  ·go_simp
   rfl
  refine hK.out _ _ ⟨((cell_far (p := ⟨gb149, _, none⟩) NB142_149.out _).trans (((cell_far (p := ⟨gb149, _, none⟩) NB142_149.out _).trans (hHeld.1)))), ((cell_far (p := ⟨gb149, _, none⟩) NB142_149.out _).trans (((cell_far (p := ⟨gb149, _, none⟩) NB142_149.out _).trans (hHeld.2))))⟩ (fun hHeld => ?_)
  clear hK K
  refine done_ (done_of HT_.out (by kernel_rfl)) ?_
  have hnb19 := NB149_142.out
  have hnc19 := NB142_149.out
  have hnb20 := NB149_143.out
  have hnc20 := NB143_149.out
  have hnb21 := NB149_148.out
  have hnc21 := NB148_149.out
  have hcz22_0 : w14.cell? ⟨gb149, 0, none⟩ = some (.int .u64 0) := (blk_cell BK149.out 0).trans rfl
  have hcz22_1 : w14.cell? ⟨gb149, 1, none⟩ = some (.int .u64 0) := (blk_cell BK149.out 1).trans rfl
  have hfz22_0 := blk_frozen BK149.out 0
  have hfz22_1 := blk_frozen BK149.out 1
  try go_wp2_with (first | ((with_reducible refine gate_callee (f := 73) rfl ?_); refine goesL_ (some 19) rfl rfl Tryd.func73 (by kernel_rfl) rfl #[] rfl aA ?_; (with_reducible refine (wide_greatest.calls  t150 t151 _ A6.out).mono ?_); rintro e w23 ⟨rfl, hb⟩; refine ⟨_, rfl, ?_⟩; have n0_ := Aside0.mk (blk_below (g := gb142) (o := .cells #[.int .u64 a0_0, .int .u64 a0_1] 76 (0, 0)) (by (with_reducible repeat (first | refine blk_drewN ?_ _ | refine blk_drew ?_ | refine blk_alloc ?_ _)); refine blk_far ?_ NB142_149.out _; (with_reducible repeat (first | refine blk_drewN ?_ _ | refine blk_drew ?_ | refine blk_alloc ?_ _)); refine blk_far ?_ NB142_149.out _; (with_reducible repeat (first | refine blk_drewN ?_ _ | refine blk_drew ?_ | refine blk_alloc ?_ _)); refine blk_far ?_ NB142_148.out _; (with_reducible repeat (first | refine blk_drewN ?_ _ | refine blk_drew ?_ | refine blk_alloc ?_ _)); refine blk_far ?_ NB142_148.out _; exact kA) hb); have n1_ := Aside0.mk (blk_below (g := gb143) (o := .cells #[.int .u64 0, .int .u64 0] 76 (0, 0)) (by (with_reducible repeat (first | refine blk_drewN ?_ _ | refine blk_drew ?_ | refine blk_alloc ?_ _)); refine blk_far ?_ NB143_149.out _; (with_reducible repeat (first | refine blk_drewN ?_ _ | refine blk_drew ?_ | refine blk_alloc ?_ _)); refine blk_far ?_ NB143_149.out _; (with_reducible repeat (first | refine blk_drewN ?_ _ | refine blk_drew ?_ | refine blk_alloc ?_ _)); refine blk_far ?_ NB143_148.out _; (with_reducible repeat (first | refine blk_drewN ?_ _ | refine blk_drew ?_ | refine blk_alloc ?_ _)); refine blk_far ?_ NB143_148.out _; exact kA) hb); have n2_ := Aside0.mk (blk_below (g := gb148) (o := .cells #[.int .u64 t144, .int .u64 t145] 76 (0, 0)) (by (with_reducible repeat (first | refine blk_drewN ?_ _ | refine blk_drew ?_ | refine blk_alloc ?_ _)); refine blk_far ?_ NB148_149.out _; (with_reducible repeat (first | refine blk_drewN ?_ _ | refine blk_drew ?_ | refine blk_alloc ?_ _)); refine blk_far ?_ NB148_149.out _; (with_reducible repeat (first | refine blk_drewN ?_ _ | refine blk_drew ?_ | refine blk_alloc ?_ _)); refine blk_put (cs := #[.int .u64 t144, .int .u64 0]) ?_ 1 _ rfl; (with_reducible repeat (first | refine blk_drewN ?_ _ | refine blk_drew ?_ | refine blk_alloc ?_ _)); refine blk_put (cs := #[.int .u64 0, .int .u64 0]) ?_ 0 _ rfl; exact kA) hb); have n3_ := Aside0.mk (blk_below (g := gb149) (o := .cells #[.int .u64 t146, .int .u64 t147] 76 (0, 0)) (by (with_reducible repeat (first | refine blk_drewN ?_ _ | refine blk_drew ?_ | refine blk_alloc ?_ _)); refine blk_put (cs := #[.int .u64 t146, .int .u64 0]) ?_ 1 _ rfl; (with_reducible repeat (first | refine blk_drewN ?_ _ | refine blk_drew ?_ | refine blk_alloc ?_ _)); refine blk_put (cs := #[.int .u64 0, .int .u64 0]) ?_ 0 _ rfl; (with_reducible repeat (first | refine blk_drewN ?_ _ | refine blk_drew ?_ | refine blk_alloc ?_ _)); refine blk_far ?_ NB149_148.out _; (with_reducible repeat (first | refine blk_drewN ?_ _ | refine blk_drew ?_ | refine blk_alloc ?_ _)); refine blk_far ?_ NB149_148.out _; exact kA) hb); have n4_ := Aside0.mk (below_step bA hb); clear BK142 BK143 BK148 BK149 HB; have BK142 := n0_; have BK143 := n1_; have BK148 := n2_; have BK149 := n3_; have HB := n4_; clear n0_ n1_ n2_ n3_ n4_; (try clear hb); have hnb24 := NB143_142.out; have hnc24 := NB142_143.out; have hnb25 := NB143_148.out; have hnc25 := NB148_143.out; have hcz26_0 : w23.cell? ⟨gb143, 0, none⟩ = some (.int .u64 0) := (blk_cell BK143.out 0).trans rfl; have hcz26_1 : w23.cell? ⟨gb143, 1, none⟩ = some (.int .u64 0) := (blk_cell BK143.out 1).trans rfl; have hfz26_0 := blk_frozen BK143.out 0; have hfz26_1 := blk_frozen BK143.out 1))
  refine bodyPost_ret (results_ct rfl _ _ gb143 76 #[.int .u64 t150, .int .u64 t151] (0, 0) _ rfl (by (with_reducible repeat (first | refine blk_drewN ?_ _ | refine blk_drew ?_ | refine blk_alloc ?_ _)); refine blk_put (cs := #[.int .u64 t150, .int .u64 0]) ?_ 1 _ rfl; (with_reducible repeat (first | refine blk_drewN ?_ _ | refine blk_drew ?_ | refine blk_alloc ?_ _)); refine blk_put (cs := #[.int .u64 0, .int .u64 0]) ?_ 0 _ rfl; exact kA) Tryd.underlying76 rfl (by kernel_rfl)) rfl ?_
  exact ⟨by first | rfl | (simp [errW_none, errW_some] <;> rfl) | (simp [*, errW_none, errW_some] <;> rfl), bA⟩
 ·rw [if_neg c5] at H
  have c5b0 : decide (0 < t146) = false := decide_eq_false c5
  clear c5; replace H := Option.bind_eq_some_iff.mp H; obtain ⟨⟨t152, t153, t154⟩, A270, H⟩ := H; replace H : (some (t152, t153, t154)) = some (r1, r2, r3) := H; have A27 := Aside0.mk A270; clear A270
  simp only [Option.some.injEq, Prod.mk.injEq] at H
  obtain ⟨rfl, rfl, rfl⟩ := H
  go_enter Tryd.func66, Tryd.ntmps66
  try go_wp2_with (first | ((with_reducible refine gate_dst (N := 2) rfl ?_); refine bxA 2 #[.int .u64 a0_0, .int .u64 a0_1] 76 ?_; intro gb142 hg w28 hbox hb; have n0_ := Aside0.mk (below_step bA hb); have n1_ := Aside0.mk (hbox); have n2_ := Aside0.mk (gwA hg bA); have n3_ := Aside0.mk (gwA hg bA); clear HB; have HB := n0_; have BK142 := n1_; have GW142 := n2_; have GE142 := n3_; clear n0_ n1_ n2_ n3_ hb hbox hg) | ((with_reducible refine gate_dst (N := 4) rfl ?_); refine bxA 4 #[.int .u64 0, .int .u64 0] 76 ?_; intro gb143 hg w29 hbox hb; have n0_ := Aside0.mk (blk_below (g := gb142) kA hb); have n1_ := Aside0.mk (below_step bA hb); have n2_ := Aside0.mk (hbox); have n3_ := Aside0.mk (gwA hg bA); have n4_ := Aside0.mk (gwA hg bA); have n5_ := Aside0.mk (neA (g := gb142) hg kA); have n6_ := Aside0.mk (neB (g := gb142) hg kA); clear BK142 HB; have BK142 := n0_; have HB := n1_; have BK143 := n2_; have GW143 := n3_; have GE143 := n4_; have NB142_143 := n5_; have NB143_142 := n6_; clear n0_ n1_ n2_ n3_ n4_ n5_ n6_ hb hbox hg))
  have n0_ := Aside0.mk (blk_drew BK142.out); have n1_ := Aside0.mk (blk_drew BK143.out); have n2_ := Aside0.mk (below_drew1 HB.out); clear BK142 BK143 HB; have BK142 := n0_; have BK143 := n1_; have HB := n2_; clear n0_ n1_ n2_
  refine start_ (n := 12) (S := fun w' => w'.cell? ⟨gb142, 0, none⟩ = some (.int .u64 a0_0) ∧ w'.cell? ⟨gb142, 1, none⟩ = some (.int .u64 a0_1)) (ds := []) #[false, false, false, false, false, false, false, false, false, false, false, false] (by kernel_rfl) rfl rfl ⟨(blk_cell BK142.out 0).trans rfl, (blk_cell BK142.out 1).trans rfl⟩ (fun hHeld => ?_); refine with_tabW wide_Times.tab1 wide_Times.bits1 (fun HT_ HW_ => ?_)
  generalize w29.drew = w30 at BK142 BK143 HB hHeld ⊢
  refine pure_ (i := 0) (N := some 8) (v := ?_) (a' := ?_) #[true, false, false, false, false, false, false, false, false, false, false, false] rfl rfl (any_of HT_.out (by kernel_rfl)) (fun _ _ _ h => h) (Or.inl ⟨by rfl, ?_⟩) ?_ ?_
  rotate_left
  ·intro w'
   go_simp; with_reducible rfl
  rotate_left
  ·simp only [Act.put, List.setIfInBounds_toArray, List.set_cons_zero, List.set_cons_succ, i64_w, i32_w]
   rfl
  refine pure_ (i := 2) (N := some 10) (v := ?_) (a' := ?_) #[true, false, true, false, false, false, false, false, false, false, false, false] rfl rfl (any_of HT_.out (by kernel_rfl)) (fun _ _ _ h => h) (Or.inl ⟨by rfl, ?_⟩) ?_ ?_
  rotate_left
  ·intro w'
   go_simp; with_reducible rfl
  rotate_left
  ·simp only [Act.put, List.setIfInBounds_toArray, List.set_cons_zero, List.set_cons_succ, i64_w, i32_w]
   rfl
  refine pure_ (i := 4) (N := some 12) (v := ?_) (a' := ?_) #[true, false, true, false, true, false, false, false, false, false, false, false] rfl rfl (any_of HT_.out (by kernel_rfl)) (fun _ _ _ h => h) (Or.inl ⟨by rfl, ?_⟩) ?_ ?_
  rotate_left
  ·intro w'
   go_simp; with_reducible rfl
  rotate_left
  ·simp only [Act.put, List.setIfInBounds_toArray, List.set_cons_zero, List.set_cons_succ, i64_w, i32_w]
   rfl
  refine pure_ (i := 6) (N := some 14) (v := ?_) (a' := ?_) #[true, false, true, false, true, false, true, false, false, false, false, false] rfl rfl (any_of HT_.out (by kernel_rfl)) (fun _ _ _ h => h) (Or.inl ⟨by rfl, ?_⟩) ?_ ?_
  rotate_left
  ·intro w'
   go_simp; with_reducible rfl
  rotate_left
  ·simp only [Act.put, List.setIfInBounds_toArray, List.set_cons_zero, List.set_cons_succ, i64_w, i32_w]
   rfl
  refine take_ (i := 1) (N := some 9) (v := ?_) (a' := ?_) #[true, true, true, false, true, false, true, false, false, false, false, false] rfl rfl (take_ofW HT_.out HW_.out (by kernel_rfl)) (fun _ _ _ h => h) (Or.inl ⟨by rfl, ?_⟩) hHeld ?_ ?_
  rotate_left
  ·rintro w' ⟨s0, s1⟩
   go_simp; with_reducible rfl
  rotate_left
  ·simp only [Act.put, List.setIfInBounds_toArray, List.set_cons_zero, List.set_cons_succ, i64_w, i32_w]
   rfl
  refine take_ (i := 5) (N := some 13) (v := ?_) (a' := ?_) #[true, true, true, false, true, true, true, false, false, false, false, false] rfl rfl (take_ofW HT_.out HW_.out (by kernel_rfl)) (fun _ _ _ h => h) (Or.inl ⟨by rfl, ?_⟩) hHeld ?_ ?_
  rotate_left
  ·rintro w' ⟨s0, s1⟩
   go_simp; with_reducible rfl
  rotate_left
  ·simp only [Act.put, List.setIfInBounds_toArray, List.set_cons_zero, List.set_cons_succ, i64_w, i32_w]
   rfl
  refine join_ (σ := Nat × Nat) 2 #[true, true, true, true, true, true, true, true, true, true, false, false] (fun s_ => [(11, .agg #[.int .u64 t144, .int .u64 t145]), (15, .agg #[.int .u64 t146, .int .u64 t147]), (6, .pointer (some ⟨s_.1, 0, none⟩)), (7, .pointer (some ⟨s_.2, 0, none⟩))]) (fun s_ w' => (w'.cell? ⟨gb142, 0, none⟩ = some (.int .u64 a0_0) ∧ w'.cell? ⟨gb142, 1, none⟩ = some (.int .u64 a0_1)) ∧ (w'.heap[gb142]? = some (.cells #[.int .u64 a0_0, .int .u64 a0_1] 76 (0, 0))) ∧ (w'.heap[gb143]? = some (.cells #[.int .u64 0, .int .u64 0] 76 (0, 0))) ∧ (w'.heap[s_.1]? = some (.cells #[.int .u64 0, .int .u64 0] 76 (0, 0))) ∧ (w'.heap[s_.2]? = some (.cells #[.int .u64 0, .int .u64 0] 76 (0, 0))) ∧ (w.heap.size ≤ s_.1) ∧ (w.heap.size ≤ s_.1) ∧ (gb142 ≠ s_.1) ∧ (s_.1 ≠ gb142) ∧ (gb143 ≠ s_.1) ∧ (s_.1 ≠ gb143) ∧ (s_.2 ≠ s_.1) ∧ (s_.1 ≠ s_.2) ∧ (w.heap.size ≤ s_.2) ∧ (w.heap.size ≤ s_.2) ∧ (gb142 ≠ s_.2) ∧ (s_.2 ≠ gb142) ∧ (gb143 ≠ s_.2) ∧ (s_.2 ≠ gb143) ∧ (Below w.heap.size w w')) ?_ ?_
  rotate_left
  ·intro hJ3_7_8_9
   refine join_ (σ := Nat) 3 #[true, true, true, true, true, true, true, true, true, false, false, false] (fun s_ => [(11, .agg #[.int .u64 t144, .int .u64 t145]), (15, .agg #[.int .u64 t146, .int .u64 t147]), (6, .pointer (some ⟨s_, 0, none⟩))]) (fun s_ w' => (w'.cell? ⟨gb142, 0, none⟩ = some (.int .u64 a0_0) ∧ w'.cell? ⟨gb142, 1, none⟩ = some (.int .u64 a0_1)) ∧ (w'.heap[gb142]? = some (.cells #[.int .u64 a0_0, .int .u64 a0_1] 76 (0, 0))) ∧ (w'.heap[gb143]? = some (.cells #[.int .u64 0, .int .u64 0] 76 (0, 0))) ∧ (w'.heap[s_]? = some (.cells #[.int .u64 0, .int .u64 0] 76 (0, 0))) ∧ (w.heap.size ≤ s_) ∧ (w.heap.size ≤ s_) ∧ (gb142 ≠ s_) ∧ (s_ ≠ gb142) ∧ (gb143 ≠ s_) ∧ (s_ ≠ gb143) ∧ (Below w.heap.size w w')) ?_ ?_
   rotate_left
   ·intro hJ3_7_8
    refine join_ (σ := Nat) 3 #[true, true, true, true, true, true, true, true, false, true, false, false] (fun s_ => [(11, .agg #[.int .u64 t144, .int .u64 t145]), (15, .agg #[.int .u64 t146, .int .u64 t147]), (7, .pointer (some ⟨s_, 0, none⟩))]) (fun s_ w' => (w'.cell? ⟨gb142, 0, none⟩ = some (.int .u64 a0_0) ∧ w'.cell? ⟨gb142, 1, none⟩ = some (.int .u64 a0_1)) ∧ (w'.heap[gb142]? = some (.cells #[.int .u64 a0_0, .int .u64 a0_1] 76 (0, 0))) ∧ (w'.heap[gb143]? = some (.cells #[.int .u64 0, .int .u64 0] 76 (0, 0))) ∧ (w'.heap[s_]? = some (.cells #[.int .u64 0, .int .u64 0] 76 (0, 0))) ∧ (w.heap.size ≤ s_) ∧ (w.heap.size ≤ s_) ∧ (gb142 ≠ s_) ∧ (s_ ≠ gb142) ∧ (gb143 ≠ s_) ∧ (s_ ≠ gb143) ∧ (Below w.heap.size w w')) ?_ ?_
    rotate_left
    ·intro hJ3_7_9
     refine join_ (σ := Nat × Nat) 3 #[true, true, true, true, true, true, true, false, true, true, false, false] (fun s_ => [(11, .agg #[.int .u64 t144, .int .u64 t145]), (6, .pointer (some ⟨s_.1, 0, none⟩)), (7, .pointer (some ⟨s_.2, 0, none⟩))]) (fun s_ w' => (w'.cell? ⟨gb142, 0, none⟩ = some (.int .u64 a0_0) ∧ w'.cell? ⟨gb142, 1, none⟩ = some (.int .u64 a0_1)) ∧ (w'.heap[gb142]? = some (.cells #[.int .u64 a0_0, .int .u64 a0_1] 76 (0, 0))) ∧ (w'.heap[gb143]? = some (.cells #[.int .u64 0, .int .u64 0] 76 (0, 0))) ∧ (w'.heap[s_.1]? = some (.cells #[.int .u64 0, .int .u64 0] 76 (0, 0))) ∧ (w'.heap[s_.2]? = some (.cells #[.int .u64 0, .int .u64 0] 76 (0, 0))) ∧ (w.heap.size ≤ s_.1) ∧ (w.heap.size ≤ s_.1) ∧ (gb142 ≠ s_.1) ∧ (s_.1 ≠ gb142) ∧ (gb143 ≠ s_.1) ∧ (s_.1 ≠ gb143) ∧ (s_.2 ≠ s_.1) ∧ (s_.1 ≠ s_.2) ∧ (w.heap.size ≤ s_.2) ∧ (w.heap.size ≤ s_.2) ∧ (gb142 ≠ s_.2) ∧ (s_.2 ≠ gb142) ∧ (gb143 ≠ s_.2) ∧ (s_.2 ≠ gb143) ∧ (Below w.heap.size w w')) ?_ ?_
     rotate_left
     ·intro hJ3_8_9
      refine join_ (σ := Unit) 4 #[true, true, true, true, true, true, true, true, false, false, false, false] (fun s_ => [(11, .agg #[.int .u64 t144, .int .u64 t145]), (15, .agg #[.int .u64 t146, .int .u64 t147])]) (fun s_ w' => (w'.cell? ⟨gb142, 0, none⟩ = some (.int .u64 a0_0) ∧ w'.cell? ⟨gb142, 1, none⟩ = some (.int .u64 a0_1)) ∧ (w'.heap[gb142]? = some (.cells #[.int .u64 a0_0, .int .u64 a0_1] 76 (0, 0))) ∧ (w'.heap[gb143]? = some (.cells #[.int .u64 0, .int .u64 0] 76 (0, 0))) ∧ (Below w.heap.size w w')) ?_ ?_
      rotate_left
      ·intro hJ3_7
       refine join_ (σ := Nat) 4 #[true, true, true, true, true, true, true, false, true, false, false, false] (fun s_ => [(11, .agg #[.int .u64 t144, .int .u64 t145]), (6, .pointer (some ⟨s_, 0, none⟩))]) (fun s_ w' => (w'.cell? ⟨gb142, 0, none⟩ = some (.int .u64 a0_0) ∧ w'.cell? ⟨gb142, 1, none⟩ = some (.int .u64 a0_1)) ∧ (w'.heap[gb142]? = some (.cells #[.int .u64 a0_0, .int .u64 a0_1] 76 (0, 0))) ∧ (w'.heap[gb143]? = some (.cells #[.int .u64 0, .int .u64 0] 76 (0, 0))) ∧ (w'.heap[s_]? = some (.cells #[.int .u64 0, .int .u64 0] 76 (0, 0))) ∧ (w.heap.size ≤ s_) ∧ (w.heap.size ≤ s_) ∧ (gb142 ≠ s_) ∧ (s_ ≠ gb142) ∧ (gb143 ≠ s_) ∧ (s_ ≠ gb143) ∧ (Below w.heap.size w w')) ?_ ?_
       rotate_left
       ·intro hJ3_8
        refine join_ (σ := Nat) 4 #[true, true, true, true, true, true, true, false, false, true, false, false] (fun s_ => [(11, .agg #[.int .u64 t144, .int .u64 t145]), (7, .pointer (some ⟨s_, 0, none⟩))]) (fun s_ w' => (w'.cell? ⟨gb142, 0, none⟩ = some (.int .u64 a0_0) ∧ w'.cell? ⟨gb142, 1, none⟩ = some (.int .u64 a0_1)) ∧ (w'.heap[gb142]? = some (.cells #[.int .u64 a0_0, .int .u64 a0_1] 76 (0, 0))) ∧ (w'.heap[gb143]? = some (.cells #[.int .u64 0, .int .u64 0] 76 (0, 0))) ∧ (w'.heap[s_]? = some (.cells #[.int .u64 0, .int .u64 0] 76 (0, 0))) ∧ (w.heap.size ≤ s_) ∧ (w.heap.size ≤ s_) ∧ (gb142 ≠ s_) ∧ (s_ ≠ gb142) ∧ (gb143 ≠ s_) ∧ (s_ ≠ gb143) ∧ (Below w.heap.size w w')) ?_ ?_
        rotate_left
        ·intro hJ3_9
         refine join_ (σ := Nat × Nat) 4 #[true, true, true, false, true, true, true, false, true, true, false, false] (fun s_ => [(6, .pointer (some ⟨s_.1, 0, none⟩)), (7, .pointer (some ⟨s_.2, 0, none⟩))]) (fun s_ w' => (w'.cell? ⟨gb142, 0, none⟩ = some (.int .u64 a0_0) ∧ w'.cell? ⟨gb142, 1, none⟩ = some (.int .u64 a0_1)) ∧ (w'.heap[gb142]? = some (.cells #[.int .u64 a0_0, .int .u64 a0_1] 76 (0, 0))) ∧ (w'.heap[gb143]? = some (.cells #[.int .u64 0, .int .u64 0] 76 (0, 0))) ∧ (w'.heap[s_.1]? = some (.cells #[.int .u64 0, .int .u64 0] 76 (0, 0))) ∧ (w'.heap[s_.2]? = some (.cells #[.int .u64 0, .int .u64 0] 76 (0, 0))) ∧ (w.heap.size ≤ s_.1) ∧ (w.heap.size ≤ s_.1) ∧ (gb142 ≠ s_.1) ∧ (s_.1 ≠ gb142) ∧ (gb143 ≠ s_.1) ∧ (s_.1 ≠ gb143) ∧ (s_.2 ≠ s_.1) ∧ (s_.1 ≠ s_.2) ∧ (w.heap.size ≤ s_.2) ∧ (w.heap.size ≤ s_.2) ∧ (gb142 ≠ s_.2) ∧ (s_.2 ≠ gb142) ∧ (gb143 ≠ s_.2) ∧ (s_.2 ≠ gb143) ∧ (Below w.heap.size w w')) ?_ ?_
         rotate_left
         ·intro hJ8_9
          refine join_ (σ := Unit) 5 #[true, true, true, true, true, true, true, false, false, false, false, false] (fun s_ => [(11, .agg #[.int .u64 t144, .int .u64 t145])]) (fun s_ w' => (w'.cell? ⟨gb142, 0, none⟩ = some (.int .u64 a0_0) ∧ w'.cell? ⟨gb142, 1, none⟩ = some (.int .u64 a0_1)) ∧ (w'.heap[gb142]? = some (.cells #[.int .u64 a0_0, .int .u64 a0_1] 76 (0, 0))) ∧ (w'.heap[gb143]? = some (.cells #[.int .u64 0, .int .u64 0] 76 (0, 0))) ∧ (Below w.heap.size w w')) ?_ ?_
          rotate_left
          ·intro hJ3
           refine join_ (σ := Nat) 5 #[true, true, true, false, true, true, true, false, true, false, false, false] (fun s_ => [(6, .pointer (some ⟨s_, 0, none⟩))]) (fun s_ w' => (w'.cell? ⟨gb142, 0, none⟩ = some (.int .u64 a0_0) ∧ w'.cell? ⟨gb142, 1, none⟩ = some (.int .u64 a0_1)) ∧ (w'.heap[gb142]? = some (.cells #[.int .u64 a0_0, .int .u64 a0_1] 76 (0, 0))) ∧ (w'.heap[gb143]? = some (.cells #[.int .u64 0, .int .u64 0] 76 (0, 0))) ∧ (w'.heap[s_]? = some (.cells #[.int .u64 0, .int .u64 0] 76 (0, 0))) ∧ (w.heap.size ≤ s_) ∧ (w.heap.size ≤ s_) ∧ (gb142 ≠ s_) ∧ (s_ ≠ gb142) ∧ (gb143 ≠ s_) ∧ (s_ ≠ gb143) ∧ (Below w.heap.size w w')) ?_ ?_
           rotate_left
           ·intro hJ8
            refine join_ (σ := Nat) 5 #[true, true, true, false, true, true, true, false, false, true, false, false] (fun s_ => [(7, .pointer (some ⟨s_, 0, none⟩))]) (fun s_ w' => (w'.cell? ⟨gb142, 0, none⟩ = some (.int .u64 a0_0) ∧ w'.cell? ⟨gb142, 1, none⟩ = some (.int .u64 a0_1)) ∧ (w'.heap[gb142]? = some (.cells #[.int .u64 a0_0, .int .u64 a0_1] 76 (0, 0))) ∧ (w'.heap[gb143]? = some (.cells #[.int .u64 0, .int .u64 0] 76 (0, 0))) ∧ (w'.heap[s_]? = some (.cells #[.int .u64 0, .int .u64 0] 76 (0, 0))) ∧ (w.heap.size ≤ s_) ∧ (w.heap.size ≤ s_) ∧ (gb142 ≠ s_) ∧ (s_ ≠ gb142) ∧ (gb143 ≠ s_) ∧ (s_ ≠ gb143) ∧ (Below w.heap.size w w')) ?_ ?_
            rotate_left
            ·intro hJ9
             refine three_ (i := 3) (j := 8) (k := 9) (Ni := some 11) (Nj := some 6) (Nk := some 7) #[true, true, true, true, true, true, true, false, false, false, false, false] #[true, true, true, false, true, true, true, false, true, false, false, false] #[true, true, true, false, true, true, true, false, false, true, false, false] rfl rfl rfl rfl rfl rfl (three_of HT_.out (by kernel_rfl)) (by decide) (by decide) (by decide) (fun K hK => ?_) (fun K hK => ?_) (fun K hK => ?_)
             ·skip
              refine goes_ Tryd.func42 (by kernel_rfl) rfl #[.int .u64 a0_1, .int .u64 a1] (by rfl) rfl rfl aA ?_
              with_reducible refine (wide_Mul.calls a0_1 a1 t144 t145 _ A3.out).mono ?_
              rintro e w31 ⟨rfl, hb⟩
              refine ⟨_, rfl, ?_⟩; have n0_ := Aside0.mk (blk_below (g := gb142) kA hb); have n1_ := Aside0.mk (blk_below (g := gb143) kA hb); have n2_ := Aside0.mk (below_step bA hb); clear BK142 BK143 HB; have BK142 := n0_; have BK143 := n1_; have HB := n2_; clear n0_ n1_ n2_; (try clear hb)
              refine hK.out _ _ ⟨(blk_cell BK142.out 0).trans rfl, (blk_cell BK142.out 1).trans rfl⟩ (fun hHeld => ?_)
              clear hK K
              refine norm_ (a' := ?_) ?_ ?_
              rotate_left
              ·show Act.put _ (some 11) _ = _
               simp only [Act.put, List.setIfInBounds_toArray, List.set_cons_zero, List.set_cons_succ, i64_w, i32_w]
               rfl
              exact norm_ (by first | (simp only [putAll, Act.put, List.setIfInBounds_toArray, List.set_cons_zero, List.set_cons_succ]; done) | (simp only [putAll, Act.put, List.setIfInBounds_toArray, List.set_cons_zero, List.set_cons_succ]; rfl)) (hJ3 () _ ⟨hHeld, kA, kA, bA⟩)
             ·skip
              refine box_step ?hg (N := 6) ?hd (cs := #[.int .u64 0, .int .u64 0]) (t := 76) ?hr ?_; (case hd => rfl); (case hg => rfl); (case hr => first | (go_simp; done) | (go_simp; rfl))
              intro gb148 hg w31 hbox hb
              have n0_ := Aside0.mk (blk_below (g := gb142) kA hb); have n1_ := Aside0.mk (blk_below (g := gb143) kA hb); have n2_ := Aside0.mk (below_step bA hb); have n3_ := Aside0.mk (hbox); have n4_ := Aside0.mk (gwA hg bA); have n5_ := Aside0.mk (gwA hg bA); have n6_ := Aside0.mk (neA (g := gb142) hg kA); have n7_ := Aside0.mk (neB (g := gb142) hg kA); have n8_ := Aside0.mk (neA (g := gb143) hg kA); have n9_ := Aside0.mk (neB (g := gb143) hg kA); clear BK142 BK143 HB; have BK142 := n0_; have BK143 := n1_; have HB := n2_; have BK148 := n3_; have GW148 := n4_; have GE148 := n5_; have NB142_148 := n6_; have NB148_142 := n7_; have NB143_148 := n8_; have NB148_143 := n9_; clear n0_ n1_ n2_ n3_ n4_ n5_ n6_ n7_ n8_ n9_ hb hbox hg
              refine hK.out _ _ ⟨(blk_cell BK142.out 0).trans rfl, (blk_cell BK142.out 1).trans rfl⟩ (fun hHeld => ?_)
              clear hK K
              refine norm_ (a' := ?_) ?_ ?_
              rotate_left
              ·show Act.put _ (some 6) _ = _
               simp only [Act.put, List.setIfInBounds_toArray, List.set_cons_zero, List.set_cons_succ, i64_w, i32_w]
               rfl
              exact norm_ (by first | (simp only [putAll, Act.put, List.setIfInBounds_toArray, List.set_cons_zero, List.set_cons_succ]; done) | (simp only [putAll, Act.put, List.setIfInBounds_toArray, List.set_cons_zero, List.set_cons_succ]; rfl)) (hJ8 (gb148) _ ⟨hHeld, kA, kA, kA, GW148.out, GE148.out, NB142_148.out, NB148_142.out, NB143_148.out, NB148_143.out, bA⟩)
             ·skip
              refine box_step ?hg (N := 7) ?hd (cs := #[.int .u64 0, .int .u64 0]) (t := 76) ?hr ?_; (case hd => rfl); (case hg => rfl); (case hr => first | (go_simp; done) | (go_simp; rfl))
              intro gb149 hg w31 hbox hb
              have n0_ := Aside0.mk (blk_below (g := gb142) kA hb); have n1_ := Aside0.mk (blk_below (g := gb143) kA hb); have n2_ := Aside0.mk (below_step bA hb); have n3_ := Aside0.mk (hbox); have n4_ := Aside0.mk (gwA hg bA); have n5_ := Aside0.mk (gwA hg bA); have n6_ := Aside0.mk (neA (g := gb142) hg kA); have n7_ := Aside0.mk (neB (g := gb142) hg kA); have n8_ := Aside0.mk (neA (g := gb143) hg kA); have n9_ := Aside0.mk (neB (g := gb143) hg kA); clear BK142 BK143 HB; have BK142 := n0_; have BK143 := n1_; have HB := n2_; have BK149 := n3_; have GW149 := n4_; have GE149 := n5_; have NB142_149 := n6_; have NB149_142 := n7_; have NB143_149 := n8_; have NB149_143 := n9_; clear n0_ n1_ n2_ n3_ n4_ n5_ n6_ n7_ n8_ n9_ hb hbox hg
              refine hK.out _ _ ⟨(blk_cell BK142.out 0).trans rfl, (blk_cell BK142.out 1).trans rfl⟩ (fun hHeld => ?_)
              clear hK K
              refine norm_ (a' := ?_) ?_ ?_
              rotate_left
              ·show Act.put _ (some 7) _ = _
               simp only [Act.put, List.setIfInBounds_toArray, List.set_cons_zero, List.set_cons_succ, i64_w, i32_w]
               rfl
              exact norm_ (by first | (simp only [putAll, Act.put, List.setIfInBounds_toArray, List.set_cons_zero, List.set_cons_succ]; done) | (simp only [putAll, Act.put, List.setIfInBounds_toArray, List.set_cons_zero, List.set_cons_succ]; rfl)) (hJ9 (gb149) _ ⟨hHeld, kA, kA, kA, GW149.out, GE149.out, NB142_149.out, NB149_142.out, NB143_149.out, NB149_143.out, bA⟩)
            ·skip
             rintro gb149 w32 ⟨hS_, h0_, h1_, h2_, h3_, h4_, h5_, h6_, h7_, h8_, h9_⟩
             have n0_ : Aside0 (w32.heap[gb142]? = some (.cells #[.int .u64 a0_0, .int .u64 a0_1] 76 (0, 0))) := ⟨h0_⟩
             have n1_ : Aside0 (w32.heap[gb143]? = some (.cells #[.int .u64 0, .int .u64 0] 76 (0, 0))) := ⟨h1_⟩
             have n2_ : Aside0 (w32.heap[gb149]? = some (.cells #[.int .u64 0, .int .u64 0] 76 (0, 0))) := ⟨h2_⟩
             have n3_ : Aside0 (w.heap.size ≤ gb149) := ⟨h3_⟩
             have n4_ : Aside0 (w.heap.size ≤ gb149) := ⟨h4_⟩
             have n5_ : Aside0 (gb142 ≠ gb149) := ⟨h5_⟩
             have n6_ : Aside0 (gb149 ≠ gb142) := ⟨h6_⟩
             have n7_ : Aside0 (gb143 ≠ gb149) := ⟨h7_⟩
             have n8_ : Aside0 (gb149 ≠ gb143) := ⟨h8_⟩
             have n9_ : Aside0 (Below w.heap.size w w32) := ⟨h9_⟩
             clear BK142 BK143 HB h0_ h1_ h2_ h3_ h4_ h5_ h6_ h7_ h8_ h9_; have BK142 := n0_; have BK143 := n1_; have BK149 := n2_; have GW149 := n3_; have GE149 := n4_; have NB142_149 := n5_; have NB149_142 := n6_; have NB143_149 := n7_; have NB149_143 := n8_; have HB := n9_; clear n0_ n1_ n2_ n3_ n4_ n5_ n6_ n7_ n8_ n9_
             have hHeld : w32.cell? ⟨gb142, 0, none⟩ = some (.int .u64 a0_0) ∧ w32.cell? ⟨gb142, 1, none⟩ = some (.int .u64 a0_1) := hS_
             refine norm_ (a' := ?_) ?_ ?_
             rotate_left
             ·simp only [putAll, Act.put, List.setIfInBounds_toArray, List.set_cons_zero, List.set_cons_succ]
              rfl
             refine two_ (i := 3) (j := 8) (Ni := some 11) (Nj := some 6) #[true, true, true, true, true, true, true, false, false, true, false, false] #[true, true, true, false, true, true, true, false, true, true, false, false] rfl rfl rfl rfl (two_of HT_.out (by kernel_rfl)) (by decide) (by decide) (fun K hK => ?_) (fun K hK => ?_)
             ·skip
              refine goes_ Tryd.func42 (by kernel_rfl) rfl #[.int .u64 a0_1, .int .u64 a1] (by rfl) rfl rfl aA ?_
              with_reducible refine (wide_Mul.calls a0_1 a1 t144 t145 _ A3.out).mono ?_
              rintro e w33 ⟨rfl, hb⟩
              refine ⟨_, rfl, ?_⟩; have n0_ := Aside0.mk (blk_below (g := gb142) kA hb); have n1_ := Aside0.mk (blk_below (g := gb143) kA hb); have n2_ := Aside0.mk (blk_below (g := gb149) kA hb); have n3_ := Aside0.mk (below_step bA hb); clear BK142 BK143 BK149 HB; have BK142 := n0_; have BK143 := n1_; have BK149 := n2_; have HB := n3_; clear n0_ n1_ n2_ n3_; (try clear hb)
              refine hK.out _ _ ⟨(blk_cell BK142.out 0).trans rfl, (blk_cell BK142.out 1).trans rfl⟩ (fun hHeld => ?_)
              clear hK K
              refine norm_ (a' := ?_) ?_ ?_
              rotate_left
              ·show Act.put _ (some 11) _ = _
               simp only [Act.put, List.setIfInBounds_toArray, List.set_cons_zero, List.set_cons_succ, i64_w, i32_w]
               rfl
              exact norm_ (by first | (simp only [putAll, Act.put, List.setIfInBounds_toArray, List.set_cons_zero, List.set_cons_succ]; done) | (simp only [putAll, Act.put, List.setIfInBounds_toArray, List.set_cons_zero, List.set_cons_succ]; rfl)) (hJ3_9 (gb149) _ ⟨hHeld, kA, kA, kA, GW149.out, GE149.out, NB142_149.out, NB149_142.out, NB143_149.out, NB149_143.out, bA⟩)
             ·skip
              refine box_step ?hg (N := 6) ?hd (cs := #[.int .u64 0, .int .u64 0]) (t := 76) ?hr ?_; (case hd => rfl); (case hg => rfl); (case hr => first | (go_simp; done) | (go_simp; rfl))
              intro gb148 hg w33 hbox hb
              have n0_ := Aside0.mk (blk_below (g := gb142) kA hb); have n1_ := Aside0.mk (blk_below (g := gb143) kA hb); have n2_ := Aside0.mk (blk_below (g := gb149) kA hb); have n3_ := Aside0.mk (below_step bA hb); have n4_ := Aside0.mk (hbox); have n5_ := Aside0.mk (gwA hg bA); have n6_ := Aside0.mk (gwA hg bA); have n7_ := Aside0.mk (neA (g := gb142) hg kA); have n8_ := Aside0.mk (neB (g := gb142) hg kA); have n9_ := Aside0.mk (neA (g := gb143) hg kA); have n10_ := Aside0.mk (neB (g := gb143) hg kA); have n11_ := Aside0.mk (neA (g := gb149) hg kA); have n12_ := Aside0.mk (neB (g := gb149) hg kA); clear BK142 BK143 BK149 HB; have BK142 := n0_; have BK143 := n1_; have BK149 := n2_; have HB := n3_; have BK148 := n4_; have GW148 := n5_; have GE148 := n6_; have NB142_148 := n7_; have NB148_142 := n8_; have NB143_148 := n9_; have NB148_143 := n10_; have NB149_148 := n11_; have NB148_149 := n12_; clear n0_ n1_ n2_ n3_ n4_ n5_ n6_ n7_ n8_ n9_ n10_ n11_ n12_ hb hbox hg
              refine hK.out _ _ ⟨(blk_cell BK142.out 0).trans rfl, (blk_cell BK142.out 1).trans rfl⟩ (fun hHeld => ?_)
              clear hK K
              refine norm_ (a' := ?_) ?_ ?_
              rotate_left
              ·show Act.put _ (some 6) _ = _
               simp only [Act.put, List.setIfInBounds_toArray, List.set_cons_zero, List.set_cons_succ, i64_w, i32_w]
               rfl
              exact norm_ (by first | (simp only [putAll, Act.put, List.setIfInBounds_toArray, List.set_cons_zero, List.set_cons_succ]; done) | (simp only [putAll, Act.put, List.setIfInBounds_toArray, List.set_cons_zero, List.set_cons_succ]; rfl)) (hJ8_9 (gb148, gb149) _ ⟨hHeld, kA, kA, kA, kA, GW148.out, GE148.out, NB142_148.out, NB148_142.out, NB143_148.out, NB148_143.out, NB149_148.out, NB148_149.out, GW149.out, GE149.out, NB142_149.out, NB149_142.out, NB143_149.out, NB149_143.out, bA⟩)
           ·skip
            rintro gb148 w32 ⟨hS_, h0_, h1_, h2_, h3_, h4_, h5_, h6_, h7_, h8_, h9_⟩
            have n0_ : Aside0 (w32.heap[gb142]? = some (.cells #[.int .u64 a0_0, .int .u64 a0_1] 76 (0, 0))) := ⟨h0_⟩
            have n1_ : Aside0 (w32.heap[gb143]? = some (.cells #[.int .u64 0, .int .u64 0] 76 (0, 0))) := ⟨h1_⟩
            have n2_ : Aside0 (w32.heap[gb148]? = some (.cells #[.int .u64 0, .int .u64 0] 76 (0, 0))) := ⟨h2_⟩
            have n3_ : Aside0 (w.heap.size ≤ gb148) := ⟨h3_⟩
            have n4_ : Aside0 (w.heap.size ≤ gb148) := ⟨h4_⟩
            have n5_ : Aside0 (gb142 ≠ gb148) := ⟨h5_⟩
            have n6_ : Aside0 (gb148 ≠ gb142) := ⟨h6_⟩
            have n7_ : Aside0 (gb143 ≠ gb148) := ⟨h7_⟩
            have n8_ : Aside0 (gb148 ≠ gb143) := ⟨h8_⟩
            have n9_ : Aside0 (Below w.heap.size w w32) := ⟨h9_⟩
            clear BK142 BK143 HB h0_ h1_ h2_ h3_ h4_ h5_ h6_ h7_ h8_ h9_; have BK142 := n0_; have BK143 := n1_; have BK148 := n2_; have GW148 := n3_; have GE148 := n4_; have NB142_148 := n5_; have NB148_142 := n6_; have NB143_148 := n7_; have NB148_143 := n8_; have HB := n9_; clear n0_ n1_ n2_ n3_ n4_ n5_ n6_ n7_ n8_ n9_
            have hHeld : w32.cell? ⟨gb142, 0, none⟩ = some (.int .u64 a0_0) ∧ w32.cell? ⟨gb142, 1, none⟩ = some (.int .u64 a0_1) := hS_
            refine norm_ (a' := ?_) ?_ ?_
            rotate_left
            ·simp only [putAll, Act.put, List.setIfInBounds_toArray, List.set_cons_zero, List.set_cons_succ]
             rfl
            refine two_ (i := 3) (j := 9) (Ni := some 11) (Nj := some 7) #[true, true, true, true, true, true, true, false, true, false, false, false] #[true, true, true, false, true, true, true, false, true, true, false, false] rfl rfl rfl rfl (two_of HT_.out (by kernel_rfl)) (by decide) (by decide) (fun K hK => ?_) (fun K hK => ?_)
            ·skip
             refine goes_ Tryd.func42 (by kernel_rfl) rfl #[.int .u64 a0_1, .int .u64 a1] (by rfl) rfl rfl aA ?_
             with_reducible refine (wide_Mul.calls a0_1 a1 t144 t145 _ A3.out).mono ?_
             rintro e w33 ⟨rfl, hb⟩
             refine ⟨_, rfl, ?_⟩; have n0_ := Aside0.mk (blk_below (g := gb142) kA hb); have n1_ := Aside0.mk (blk_below (g := gb143) kA hb); have n2_ := Aside0.mk (blk_below (g := gb148) kA hb); have n3_ := Aside0.mk (below_step bA hb); clear BK142 BK143 BK148 HB; have BK142 := n0_; have BK143 := n1_; have BK148 := n2_; have HB := n3_; clear n0_ n1_ n2_ n3_; (try clear hb)
             refine hK.out _ _ ⟨(blk_cell BK142.out 0).trans rfl, (blk_cell BK142.out 1).trans rfl⟩ (fun hHeld => ?_)
             clear hK K
             refine norm_ (a' := ?_) ?_ ?_
             rotate_left
             ·show Act.put _ (some 11) _ = _
              simp only [Act.put, List.setIfInBounds_toArray, List.set_cons_zero, List.set_cons_succ, i64_w, i32_w]
              rfl
             exact norm_ (by first | (simp only [putAll, Act.put, List.setIfInBounds_toArray, List.set_cons_zero, List.set_cons_succ]; done) | (simp only [putAll, Act.put, List.setIfInBounds_toArray, List.set_cons_zero, List.set_cons_succ]; rfl)) (hJ3_8 (gb148) _ ⟨hHeld, kA, kA, kA, GW148.out, GE148.out, NB142_148.out, NB148_142.out, NB143_148.out, NB148_143.out, bA⟩)
            ·skip
             refine box_step ?hg (N := 7) ?hd (cs := #[.int .u64 0, .int .u64 0]) (t := 76) ?hr ?_; (case hd => rfl); (case hg => rfl); (case hr => first | (go_simp; done) | (go_simp; rfl))
             intro gb149 hg w33 hbox hb
             have n0_ := Aside0.mk (blk_below (g := gb142) kA hb); have n1_ := Aside0.mk (blk_below (g := gb143) kA hb); have n2_ := Aside0.mk (blk_below (g := gb148) kA hb); have n3_ := Aside0.mk (below_step bA hb); have n4_ := Aside0.mk (hbox); have n5_ := Aside0.mk (gwA hg bA); have n6_ := Aside0.mk (gwA hg bA); have n7_ := Aside0.mk (neA (g := gb142) hg kA); have n8_ := Aside0.mk (neB (g := gb142) hg kA); have n9_ := Aside0.mk (neA (g := gb143) hg kA); have n10_ := Aside0.mk (neB (g := gb143) hg kA); have n11_ := Aside0.mk (neA (g := gb148) hg kA); have n12_ := Aside0.mk (neB (g := gb148) hg kA); clear BK142 BK143 BK148 HB; have BK142 := n0_; have BK143 := n1_; have BK148 := n2_; have HB := n3_; have BK149 := n4_; have GW149 := n5_; have GE149 := n6_; have NB142_149 := n7_; have NB149_142 := n8_; have NB143_149 := n9_; have NB149_143 := n10_; have NB148_149 := n11_; have NB149_148 := n12_; clear n0_ n1_ n2_ n3_ n4_ n5_ n6_ n7_ n8_ n9_ n10_ n11_ n12_ hb hbox hg
             refine hK.out _ _ ⟨(blk_cell BK142.out 0).trans rfl, (blk_cell BK142.out 1).trans rfl⟩ (fun hHeld => ?_)
             clear hK K
             refine norm_ (a' := ?_) ?_ ?_
             rotate_left
             ·show Act.put _ (some 7) _ = _
              simp only [Act.put, List.setIfInBounds_toArray, List.set_cons_zero, List.set_cons_succ, i64_w, i32_w]
              rfl
             exact norm_ (by first | (simp only [putAll, Act.put, List.setIfInBounds_toArray, List.set_cons_zero, List.set_cons_succ]; done) | (simp only [putAll, Act.put, List.setIfInBounds_toArray, List.set_cons_zero, List.set_cons_succ]; rfl)) (hJ8_9 (gb148, gb149) _ ⟨hHeld, kA, kA, kA, kA, GW148.out, GE148.out, NB142_148.out, NB148_142.out, NB143_148.out, NB148_143.out, NB149_148.out, NB148_149.out, GW149.out, GE149.out, NB142_149.out, NB149_142.out, NB143_149.out, NB149_143.out, bA⟩)
          ·skip
           rintro _ w32 ⟨hS_, h0_, h1_, h2_⟩
           have n0_ : Aside0 (w32.heap[gb142]? = some (.cells #[.int .u64 a0_0, .int .u64 a0_1] 76 (0, 0))) := ⟨h0_⟩
           have n1_ : Aside0 (w32.heap[gb143]? = some (.cells #[.int .u64 0, .int .u64 0] 76 (0, 0))) := ⟨h1_⟩
           have n2_ : Aside0 (Below w.heap.size w w32) := ⟨h2_⟩
           clear BK142 BK143 HB h0_ h1_ h2_; have BK142 := n0_; have BK143 := n1_; have HB := n2_; clear n0_ n1_ n2_
           have hHeld : w32.cell? ⟨gb142, 0, none⟩ = some (.int .u64 a0_0) ∧ w32.cell? ⟨gb142, 1, none⟩ = some (.int .u64 a0_1) := hS_
           refine norm_ (a' := ?_) ?_ ?_
           rotate_left
           ·simp only [putAll, Act.put, List.setIfInBounds_toArray, List.set_cons_zero, List.set_cons_succ]
            rfl
           refine three_ (i := 7) (j := 8) (k := 9) (Ni := some 15) (Nj := some 6) (Nk := some 7) #[true, true, true, true, true, true, true, true, false, false, false, false] #[true, true, true, true, true, true, true, false, true, false, false, false] #[true, true, true, true, true, true, true, false, false, true, false, false] rfl rfl rfl rfl rfl rfl (three_of HT_.out (by kernel_rfl)) (by decide) (by decide) (by decide) (fun K hK => ?_) (fun K hK => ?_) (fun K hK => ?_)
           ·skip
            refine goes_ Tryd.func42 (by kernel_rfl) rfl #[.int .u64 a0_0, .int .u64 a1] (by rfl) rfl rfl aA ?_
            with_reducible refine (wide_Mul.calls a0_0 a1 t146 t147 _ A4.out).mono ?_
            rintro e w33 ⟨rfl, hb⟩
            refine ⟨_, rfl, ?_⟩; have n0_ := Aside0.mk (blk_below (g := gb142) kA hb); have n1_ := Aside0.mk (blk_below (g := gb143) kA hb); have n2_ := Aside0.mk (below_step bA hb); clear BK142 BK143 HB; have BK142 := n0_; have BK143 := n1_; have HB := n2_; clear n0_ n1_ n2_; (try clear hb)
            refine hK.out _ _ ⟨(blk_cell BK142.out 0).trans rfl, (blk_cell BK142.out 1).trans rfl⟩ (fun hHeld => ?_)
            clear hK K
            refine norm_ (a' := ?_) ?_ ?_
            rotate_left
            ·show Act.put _ (some 15) _ = _
             simp only [Act.put, List.setIfInBounds_toArray, List.set_cons_zero, List.set_cons_succ, i64_w, i32_w]
             rfl
            exact norm_ (by first | (simp only [putAll, Act.put, List.setIfInBounds_toArray, List.set_cons_zero, List.set_cons_succ]; done) | (simp only [putAll, Act.put, List.setIfInBounds_toArray, List.set_cons_zero, List.set_cons_succ]; rfl)) (hJ3_7 () _ ⟨hHeld, kA, kA, bA⟩)
           ·skip
            refine box_step ?hg (N := 6) ?hd (cs := #[.int .u64 0, .int .u64 0]) (t := 76) ?hr ?_; (case hd => rfl); (case hg => rfl); (case hr => first | (go_simp; done) | (go_simp; rfl))
            intro gb148 hg w33 hbox hb
            have n0_ := Aside0.mk (blk_below (g := gb142) kA hb); have n1_ := Aside0.mk (blk_below (g := gb143) kA hb); have n2_ := Aside0.mk (below_step bA hb); have n3_ := Aside0.mk (hbox); have n4_ := Aside0.mk (gwA hg bA); have n5_ := Aside0.mk (gwA hg bA); have n6_ := Aside0.mk (neA (g := gb142) hg kA); have n7_ := Aside0.mk (neB (g := gb142) hg kA); have n8_ := Aside0.mk (neA (g := gb143) hg kA); have n9_ := Aside0.mk (neB (g := gb143) hg kA); clear BK142 BK143 HB; have BK142 := n0_; have BK143 := n1_; have HB := n2_; have BK148 := n3_; have GW148 := n4_; have GE148 := n5_; have NB142_148 := n6_; have NB148_142 := n7_; have NB143_148 := n8_; have NB148_143 := n9_; clear n0_ n1_ n2_ n3_ n4_ n5_ n6_ n7_ n8_ n9_ hb hbox hg
            refine hK.out _ _ ⟨(blk_cell BK142.out 0).trans rfl, (blk_cell BK142.out 1).trans rfl⟩ (fun hHeld => ?_)
            clear hK K
            refine norm_ (a' := ?_) ?_ ?_
            rotate_left
            ·show Act.put _ (some 6) _ = _
             simp only [Act.put, List.setIfInBounds_toArray, List.set_cons_zero, List.set_cons_succ, i64_w, i32_w]
             rfl
            exact norm_ (by first | (simp only [putAll, Act.put, List.setIfInBounds_toArray, List.set_cons_zero, List.set_cons_succ]; done) | (simp only [putAll, Act.put, List.setIfInBounds_toArray, List.set_cons_zero, List.set_cons_succ]; rfl)) (hJ3_8 (gb148) _ ⟨hHeld, kA, kA, kA, GW148.out, GE148.out, NB142_148.out, NB148_142.out, NB143_148.out, NB148_143.out, bA⟩)
           ·skip
            refine box_step ?hg (N := 7) ?hd (cs := #[.int .u64 0, .int .u64 0]) (t := 76) ?hr ?_; (case hd => rfl); (case hg => rfl); (case hr => first | (go_simp; done) | (go_simp; rfl))
            intro gb149 hg w33 hbox hb
            have n0_ := Aside0.mk (blk_below (g := gb142) kA hb); have n1_ := Aside0.mk (blk_below (g := gb143) kA hb); have n2_ := Aside0.mk (below_step bA hb); have n3_ := Aside0.mk (hbox); have n4_ := Aside0.mk (gwA hg bA); have n5_ := Aside0.mk (gwA hg bA); have n6_ := Aside0.mk (neA (g := gb142) hg kA); have n7_ := Aside0.mk (neB (g := gb142) hg kA); have n8_ := Aside0.mk (neA (g := gb143) hg kA); have n9_ := Aside0.mk (neB (g := gb143) hg kA); clear BK142 BK143 HB; have BK142 := n0_; have BK143 := n1_; have HB := n2_; have BK149 := n3_; have GW149 := n4_; have GE149 := n5_; have NB142_149 := n6_; have NB149_142 := n7_; have NB143_149 := n8_; have NB149_143 := n9_; clear n0_ n1_ n2_ n3_ n4_ n5_ n6_ n7_ n8_ n9_ hb hbox hg
            refine hK.out _ _ ⟨(blk_cell BK142.out 0).trans rfl, (blk_cell BK142.out 1).trans rfl⟩ (fun hHeld => ?_)
            clear hK K
            refine norm_ (a' := ?_) ?_ ?_
            rotate_left
            ·show Act.put _ (some 7) _ = _
             simp only [Act.put, List.setIfInBounds_toArray, List.set_cons_zero, List.set_cons_succ, i64_w, i32_w]
             rfl
            exact norm_ (by first | (simp only [putAll, Act.put, List.setIfInBounds_toArray, List.set_cons_zero, List.set_cons_succ]; done) | (simp only [putAll, Act.put, List.setIfInBounds_toArray, List.set_cons_zero, List.set_cons_succ]; rfl)) (hJ3_9 (gb149) _ ⟨hHeld, kA, kA, kA, GW149.out, GE149.out, NB142_149.out, NB149_142.out, NB143_149.out, NB149_143.out, bA⟩)
         ·skip
          rintro ⟨gb148, gb149⟩ w33 ⟨hS_, h0_, h1_, h2_, h3_, h4_, h5_, h6_, h7_, h8_, h9_, h10_, h11_, h12_, h13_, h14_, h15_, h16_, h17_, h18_⟩
          have n0_ : Aside0 (w33.heap[gb142]? = some (.cells #[.int .u64 a0_0, .int .u64 a0_1] 76 (0, 0))) := ⟨h0_⟩
          have n1_ : Aside0 (w33.heap[gb143]? = some (.cells #[.int .u64 0, .int .u64 0] 76 (0, 0))) := ⟨h1_⟩
          have n2_ : Aside0 (w33.heap[gb148]? = some (.cells #[.int .u64 0, .int .u64 0] 76 (0, 0))) := ⟨h2_⟩
          have n3_ : Aside0 (w33.heap[gb149]? = some (.cells #[.int .u64 0, .int .u64 0] 76 (0, 0))) := ⟨h3_⟩
          have n4_ : Aside0 (w.heap.size ≤ gb148) := ⟨h4_⟩
          have n5_ : Aside0 (w.heap.size ≤ gb148) := ⟨h5_⟩
          have n6_ : Aside0 (gb142 ≠ gb148) := ⟨h6_⟩
          have n7_ : Aside0 (gb148 ≠ gb142) := ⟨h7_⟩
          have n8_ : Aside0 (gb143 ≠ gb148) := ⟨h8_⟩
          have n9_ : Aside0 (gb148 ≠ gb143) := ⟨h9_⟩
          have n10_ : Aside0 (gb149 ≠ gb148) := ⟨h10_⟩
          have n11_ : Aside0 (gb148 ≠ gb149) := ⟨h11_⟩
          have n12_ : Aside0 (w.heap.size ≤ gb149) := ⟨h12_⟩
          have n13_ : Aside0 (w.heap.size ≤ gb149) := ⟨h13_⟩
          have n14_ : Aside0 (gb142 ≠ gb149) := ⟨h14_⟩
          have n15_ : Aside0 (gb149 ≠ gb142) := ⟨h15_⟩
          have n16_ : Aside0 (gb143 ≠ gb149) := ⟨h16_⟩
          have n17_ : Aside0 (gb149 ≠ gb143) := ⟨h17_⟩
          have n18_ : Aside0 (Below w.heap.size w w33) := ⟨h18_⟩
          clear BK142 BK143 HB h0_ h1_ h2_ h3_ h4_ h5_ h6_ h7_ h8_ h9_ h10_ h11_ h12_ h13_ h14_ h15_ h16_ h17_ h18_; have BK142 := n0_; have BK143 := n1_; have BK148 := n2_; have BK149 := n3_; have GW148 := n4_; have GE148 := n5_; have NB142_148 := n6_; have NB148_142 := n7_; have NB143_148 := n8_; have NB148_143 := n9_; have NB149_148 := n10_; have NB148_149 := n11_; have GW149 := n12_; have GE149 := n13_; have NB142_149 := n14_; have NB149_142 := n15_; have NB143_149 := n16_; have NB149_143 := n17_; have HB := n18_; clear n0_ n1_ n2_ n3_ n4_ n5_ n6_ n7_ n8_ n9_ n10_ n11_ n12_ n13_ n14_ n15_ n16_ n17_ n18_
          have hHeld : w33.cell? ⟨gb142, 0, none⟩ = some (.int .u64 a0_0) ∧ w33.cell? ⟨gb142, 1, none⟩ = some (.int .u64 a0_1) := hS_
          refine norm_ (a' := ?_) ?_ ?_
          rotate_left
          ·simp only [putAll, Act.put, List.setIfInBounds_toArray, List.set_cons_zero, List.set_cons_succ]
           rfl
          refine one_ (i := 3) (N := some 11) #[true, true, true, true, true, true, true, false, true, true, false, false] rfl rfl (one_of HT_.out (by kernel_rfl)) (by decide) (fun K hK => ?_)
          refine goes_ Tryd.func42 (by kernel_rfl) rfl #[.int .u64 a0_1, .int .u64 a1] (by rfl) rfl rfl aA ?_
          with_reducible refine (wide_Mul.calls a0_1 a1 t144 t145 _ A3.out).mono ?_
          rintro e w34 ⟨rfl, hb⟩
          refine ⟨_, rfl, ?_⟩; have n0_ := Aside0.mk (blk_below (g := gb142) kA hb); have n1_ := Aside0.mk (blk_below (g := gb143) kA hb); have n2_ := Aside0.mk (blk_below (g := gb148) kA hb); have n3_ := Aside0.mk (blk_below (g := gb149) kA hb); have n4_ := Aside0.mk (below_step bA hb); clear BK142 BK143 BK148 BK149 HB; have BK142 := n0_; have BK143 := n1_; have BK148 := n2_; have BK149 := n3_; have HB := n4_; clear n0_ n1_ n2_ n3_ n4_; (try clear hb)
          refine hK.out _ _ ⟨(blk_cell BK142.out 0).trans rfl, (blk_cell BK142.out 1).trans rfl⟩ (fun hHeld => ?_)
          clear hK K
          refine norm_ (a' := ?_) ?_ ?_
          rotate_left
          ·show Act.put _ (some 11) _ = _
           simp only [Act.put, List.setIfInBounds_toArray, List.set_cons_zero, List.set_cons_succ, i64_w, i32_w]
           rfl
          exact norm_ (by first | (simp only [putAll, Act.put, List.setIfInBounds_toArray, List.set_cons_zero, List.set_cons_succ]; done) | (simp only [putAll, Act.put, List.setIfInBounds_toArray, List.set_cons_zero, List.set_cons_succ]; rfl)) (hJ3_8_9 (gb148, gb149) _ ⟨hHeld, kA, kA, kA, kA, GW148.out, GE148.out, NB142_148.out, NB148_142.out, NB143_148.out, NB148_143.out, NB149_148.out, NB148_149.out, GW149.out, GE149.out, NB142_149.out, NB149_142.out, NB143_149.out, NB149_143.out, bA⟩)
        ·skip
         rintro gb149 w33 ⟨hS_, h0_, h1_, h2_, h3_, h4_, h5_, h6_, h7_, h8_, h9_⟩
         have n0_ : Aside0 (w33.heap[gb142]? = some (.cells #[.int .u64 a0_0, .int .u64 a0_1] 76 (0, 0))) := ⟨h0_⟩
         have n1_ : Aside0 (w33.heap[gb143]? = some (.cells #[.int .u64 0, .int .u64 0] 76 (0, 0))) := ⟨h1_⟩
         have n2_ : Aside0 (w33.heap[gb149]? = some (.cells #[.int .u64 0, .int .u64 0] 76 (0, 0))) := ⟨h2_⟩
         have n3_ : Aside0 (w.heap.size ≤ gb149) := ⟨h3_⟩
         have n4_ : Aside0 (w.heap.size ≤ gb149) := ⟨h4_⟩
         have n5_ : Aside0 (gb142 ≠ gb149) := ⟨h5_⟩
         have n6_ : Aside0 (gb149 ≠ gb142) := ⟨h6_⟩
         have n7_ : Aside0 (gb143 ≠ gb149) := ⟨h7_⟩
         have n8_ : Aside0 (gb149 ≠ gb143) := ⟨h8_⟩
         have n9_ : Aside0 (Below w.heap.size w w33) := ⟨h9_⟩
         clear BK142 BK143 HB h0_ h1_ h2_ h3_ h4_ h5_ h6_ h7_ h8_ h9_; have BK142 := n0_; have BK143 := n1_; have BK149 := n2_; have GW149 := n3_; have GE149 := n4_; have NB142_149 := n5_; have NB149_142 := n6_; have NB143_149 := n7_; have NB149_143 := n8_; have HB := n9_; clear n0_ n1_ n2_ n3_ n4_ n5_ n6_ n7_ n8_ n9_
         have hHeld : w33.cell? ⟨gb142, 0, none⟩ = some (.int .u64 a0_0) ∧ w33.cell? ⟨gb142, 1, none⟩ = some (.int .u64 a0_1) := hS_
         refine norm_ (a' := ?_) ?_ ?_
         rotate_left
         ·simp only [putAll, Act.put, List.setIfInBounds_toArray, List.set_cons_zero, List.set_cons_succ]
          rfl
         refine two_ (i := 7) (j := 8) (Ni := some 15) (Nj := some 6) #[true, true, true, true, true, true, true, true, false, true, false, false] #[true, true, true, true, true, true, true, false, true, true, false, false] rfl rfl rfl rfl (two_of HT_.out (by kernel_rfl)) (by decide) (by decide) (fun K hK => ?_) (fun K hK => ?_)
         ·skip
          refine goes_ Tryd.func42 (by kernel_rfl) rfl #[.int .u64 a0_0, .int .u64 a1] (by rfl) rfl rfl aA ?_
          with_reducible refine (wide_Mul.calls a0_0 a1 t146 t147 _ A4.out).mono ?_
          rintro e w34 ⟨rfl, hb⟩
          refine ⟨_, rfl, ?_⟩; have n0_ := Aside0.mk (blk_below (g := gb142) kA hb); have n1_ := Aside0.mk (blk_below (g := gb143) kA hb); have n2_ := Aside0.mk (blk_below (g := gb149) kA hb); have n3_ := Aside0.mk (below_step bA hb); clear BK142 BK143 BK149 HB; have BK142 := n0_; have BK143 := n1_; have BK149 := n2_; have HB := n3_; clear n0_ n1_ n2_ n3_; (try clear hb)
          refine hK.out _ _ ⟨(blk_cell BK142.out 0).trans rfl, (blk_cell BK142.out 1).trans rfl⟩ (fun hHeld => ?_)
          clear hK K
          refine norm_ (a' := ?_) ?_ ?_
          rotate_left
          ·show Act.put _ (some 15) _ = _
           simp only [Act.put, List.setIfInBounds_toArray, List.set_cons_zero, List.set_cons_succ, i64_w, i32_w]
           rfl
          exact norm_ (by first | (simp only [putAll, Act.put, List.setIfInBounds_toArray, List.set_cons_zero, List.set_cons_succ]; done) | (simp only [putAll, Act.put, List.setIfInBounds_toArray, List.set_cons_zero, List.set_cons_succ]; rfl)) (hJ3_7_9 (gb149) _ ⟨hHeld, kA, kA, kA, GW149.out, GE149.out, NB142_149.out, NB149_142.out, NB143_149.out, NB149_143.out, bA⟩)
         ·skip
          refine box_step ?hg (N := 6) ?hd (cs := #[.int .u64 0, .int .u64 0]) (t := 76) ?hr ?_; (case hd => rfl); (case hg => rfl); (case hr => first | (go_simp; done) | (go_simp; rfl))
          intro gb148 hg w34 hbox hb
          have n0_ := Aside0.mk (blk_below (g := gb142) kA hb); have n1_ := Aside0.mk (blk_below (g := gb143) kA hb); have n2_ := Aside0.mk (blk_below (g := gb149) kA hb); have n3_ := Aside0.mk (below_step bA hb); have n4_ := Aside0.mk (hbox); have n5_ := Aside0.mk (gwA hg bA); have n6_ := Aside0.mk (gwA hg bA); have n7_ := Aside0.mk (neA (g := gb142) hg kA); have n8_ := Aside0.mk (neB (g := gb142) hg kA); have n9_ := Aside0.mk (neA (g := gb143) hg kA); have n10_ := Aside0.mk (neB (g := gb143) hg kA); have n11_ := Aside0.mk (neA (g := gb149) hg kA); have n12_ := Aside0.mk (neB (g := gb149) hg kA); clear BK142 BK143 BK149 HB; have BK142 := n0_; have BK143 := n1_; have BK149 := n2_; have HB := n3_; have BK148 := n4_; have GW148 := n5_; have GE148 := n6_; have NB142_148 := n7_; have NB148_142 := n8_; have NB143_148 := n9_; have NB148_143 := n10_; have NB149_148 := n11_; have NB148_149 := n12_; clear n0_ n1_ n2_ n3_ n4_ n5_ n6_ n7_ n8_ n9_ n10_ n11_ n12_ hb hbox hg
          refine hK.out _ _ ⟨(blk_cell BK142.out 0).trans rfl, (blk_cell BK142.out 1).trans rfl⟩ (fun hHeld => ?_)
          clear hK K
          refine norm_ (a' := ?_) ?_ ?_
          rotate_left
          ·show Act.put _ (some 6) _ = _
           simp only [Act.put, List.setIfInBounds_toArray, List.set_cons_zero, List.set_cons_succ, i64_w, i32_w]
           rfl
          exact norm_ (by first | (simp only [putAll, Act.put, List.setIfInBounds_toArray, List.set_cons_zero, List.set_cons_succ]; done) | (simp only [putAll, Act.put, List.setIfInBounds_toArray, List.set_cons_zero, List.set_cons_succ]; rfl)) (hJ3_8_9 (gb148, gb149) _ ⟨hHeld, kA, kA, kA, kA, GW148.out, GE148.out, NB142_148.out, NB148_142.out, NB143_148.out, NB148_143.out, NB149_148.out, NB148_149.out, GW149.out, GE149.out, NB142_149.out, NB149_142.out, NB143_149.out, NB149_143.out, bA⟩)
       ·skip
        rintro gb148 w33 ⟨hS_, h0_, h1_, h2_, h3_, h4_, h5_, h6_, h7_, h8_, h9_⟩
        have n0_ : Aside0 (w33.heap[gb142]? = some (.cells #[.int .u64 a0_0, .int .u64 a0_1] 76 (0, 0))) := ⟨h0_⟩
        have n1_ : Aside0 (w33.heap[gb143]? = some (.cells #[.int .u64 0, .int .u64 0] 76 (0, 0))) := ⟨h1_⟩
        have n2_ : Aside0 (w33.heap[gb148]? = some (.cells #[.int .u64 0, .int .u64 0] 76 (0, 0))) := ⟨h2_⟩
        have n3_ : Aside0 (w.heap.size ≤ gb148) := ⟨h3_⟩
        have n4_ : Aside0 (w.heap.size ≤ gb148) := ⟨h4_⟩
        have n5_ : Aside0 (gb142 ≠ gb148) := ⟨h5_⟩
        have n6_ : Aside0 (gb148 ≠ gb142) := ⟨h6_⟩
        have n7_ : Aside0 (gb143 ≠ gb148) := ⟨h7_⟩
        have n8_ : Aside0 (gb148 ≠ gb143) := ⟨h8_⟩
        have n9_ : Aside0 (Below w.heap.size w w33) := ⟨h9_⟩
        clear BK142 BK143 HB h0_ h1_ h2_ h3_ h4_ h5_ h6_ h7_ h8_ h9_; have BK142 := n0_; have BK143 := n1_; have BK148 := n2_; have GW148 := n3_; have GE148 := n4_; have NB142_148 := n5_; have NB148_142 := n6_; have NB143_148 := n7_; have NB148_143 := n8_; have HB := n9_; clear n0_ n1_ n2_ n3_ n4_ n5_ n6_ n7_ n8_ n9_
        have hHeld : w33.cell? ⟨gb142, 0, none⟩ = some (.int .u64 a0_0) ∧ w33.cell? ⟨gb142, 1, none⟩ = some (.int .u64 a0_1) := hS_
        refine norm_ (a' := ?_) ?_ ?_
        rotate_left
        ·simp only [putAll, Act.put, List.setIfInBounds_toArray, List.set_cons_zero, List.set_cons_succ]
         rfl
        refine two_ (i := 7) (j := 9) (Ni := some 15) (Nj := some 7) #[true, true, true, true, true, true, true, true, true, false, false, false] #[true, true, true, true, true, true, true, false, true, true, false, false] rfl rfl rfl rfl (two_of HT_.out (by kernel_rfl)) (by decide) (by decide) (fun K hK => ?_) (fun K hK => ?_)
        ·skip
         refine goes_ Tryd.func42 (by kernel_rfl) rfl #[.int .u64 a0_0, .int .u64 a1] (by rfl) rfl rfl aA ?_
         with_reducible refine (wide_Mul.calls a0_0 a1 t146 t147 _ A4.out).mono ?_
         rintro e w34 ⟨rfl, hb⟩
         refine ⟨_, rfl, ?_⟩; have n0_ := Aside0.mk (blk_below (g := gb142) kA hb); have n1_ := Aside0.mk (blk_below (g := gb143) kA hb); have n2_ := Aside0.mk (blk_below (g := gb148) kA hb); have n3_ := Aside0.mk (below_step bA hb); clear BK142 BK143 BK148 HB; have BK142 := n0_; have BK143 := n1_; have BK148 := n2_; have HB := n3_; clear n0_ n1_ n2_ n3_; (try clear hb)
         refine hK.out _ _ ⟨(blk_cell BK142.out 0).trans rfl, (blk_cell BK142.out 1).trans rfl⟩ (fun hHeld => ?_)
         clear hK K
         refine norm_ (a' := ?_) ?_ ?_
         rotate_left
         ·show Act.put _ (some 15) _ = _
          simp only [Act.put, List.setIfInBounds_toArray, List.set_cons_zero, List.set_cons_succ, i64_w, i32_w]
          rfl
         exact norm_ (by first | (simp only [putAll, Act.put, List.setIfInBounds_toArray, List.set_cons_zero, List.set_cons_succ]; done) | (simp only [putAll, Act.put, List.setIfInBounds_toArray, List.set_cons_zero, List.set_cons_succ]; rfl)) (hJ3_7_8 (gb148) _ ⟨hHeld, kA, kA, kA, GW148.out, GE148.out, NB142_148.out, NB148_142.out, NB143_148.out, NB148_143.out, bA⟩)
        ·skip
         refine box_step ?hg (N := 7) ?hd (cs := #[.int .u64 0, .int .u64 0]) (t := 76) ?hr ?_; (case hd => rfl); (case hg => rfl); (case hr => first | (go_simp; done) | (go_simp; rfl))
         intro gb149 hg w34 hbox hb
         have n0_ := Aside0.mk (blk_below (g := gb142) kA hb); have n1_ := Aside0.mk (blk_below (g := gb143) kA hb); have n2_ := Aside0.mk (blk_below (g := gb148) kA hb); have n3_ := Aside0.mk (below_step bA hb); have n4_ := Aside0.mk (hbox); have n5_ := Aside0.mk (gwA hg bA); have n6_ := Aside0.mk (gwA hg bA); have n7_ := Aside0.mk (neA (g := gb142) hg kA); have n8_ := Aside0.mk (neB (g := gb142) hg kA); have n9_ := Aside0.mk (neA (g := gb143) hg kA); have n10_ := Aside0.mk (neB (g := gb143) hg kA); have n11_ := Aside0.mk (neA (g := gb148) hg kA); have n12_ := Aside0.mk (neB (g := gb148) hg kA); clear BK142 BK143 BK148 HB; have BK142 := n0_; have BK143 := n1_; have BK148 := n2_; have HB := n3_; have BK149 := n4_; have GW149 := n5_; have GE149 := n6_; have NB142_149 := n7_; have NB149_142 := n8_; have NB143_149 := n9_; have NB149_143 := n10_; have NB148_149 := n11_; have NB149_148 := n12_; clear n0_ n1_ n2_ n3_ n4_ n5_ n6_ n7_ n8_ n9_ n10_ n11_ n12_ hb hbox hg
         refine hK.out _ _ ⟨(blk_cell BK142.out 0).trans rfl, (blk_cell BK142.out 1).trans rfl⟩ (fun hHeld => ?_)
         clear hK K
         refine norm_ (a' := ?_) ?_ ?_
         rotate_left
         ·show Act.put _ (some 7) _ = _
          simp only [Act.put, List.setIfInBounds_toArray, List.set_cons_zero, List.set_cons_succ, i64_w, i32_w]
          rfl
         exact norm_ (by first | (simp only [putAll, Act.put, List.setIfInBounds_toArray, List.set_cons_zero, List.set_cons_succ]; done) | (simp only [putAll, Act.put, List.setIfInBounds_toArray, List.set_cons_zero, List.set_cons_succ]; rfl)) (hJ3_8_9 (gb148, gb149) _ ⟨hHeld, kA, kA, kA, kA, GW148.out, GE148.out, NB142_148.out, NB148_142.out, NB143_148.out, NB148_143.out, NB149_148.out, NB148_149.out, GW149.out, GE149.out, NB142_149.out, NB149_142.out, NB143_149.out, NB149_143.out, bA⟩)
      ·skip
       rintro _ w33 ⟨hS_, h0_, h1_, h2_⟩
       have n0_ : Aside0 (w33.heap[gb142]? = some (.cells #[.int .u64 a0_0, .int .u64 a0_1] 76 (0, 0))) := ⟨h0_⟩
       have n1_ : Aside0 (w33.heap[gb143]? = some (.cells #[.int .u64 0, .int .u64 0] 76 (0, 0))) := ⟨h1_⟩
       have n2_ : Aside0 (Below w.heap.size w w33) := ⟨h2_⟩
       clear BK142 BK143 HB h0_ h1_ h2_; have BK142 := n0_; have BK143 := n1_; have HB := n2_; clear n0_ n1_ n2_
       have hHeld : w33.cell? ⟨gb142, 0, none⟩ = some (.int .u64 a0_0) ∧ w33.cell? ⟨gb142, 1, none⟩ = some (.int .u64 a0_1) := hS_
       refine norm_ (a' := ?_) ?_ ?_
       rotate_left
       ·simp only [putAll, Act.put, List.setIfInBounds_toArray, List.set_cons_zero, List.set_cons_succ]
        rfl
       refine two_ (i := 8) (j := 9) (Ni := some 6) (Nj := some 7) #[true, true, true, true, true, true, true, true, true, false, false, false] #[true, true, true, true, true, true, true, true, false, true, false, false] rfl rfl rfl rfl (two_of HT_.out (by kernel_rfl)) (by decide) (by decide) (fun K hK => ?_) (fun K hK => ?_)
       ·skip
        refine box_step ?hg (N := 6) ?hd (cs := #[.int .u64 0, .int .u64 0]) (t := 76) ?hr ?_; (case hd => rfl); (case hg => rfl); (case hr => first | (go_simp; done) | (go_simp; rfl))
        intro gb148 hg w34 hbox hb
        have n0_ := Aside0.mk (blk_below (g := gb142) kA hb); have n1_ := Aside0.mk (blk_below (g := gb143) kA hb); have n2_ := Aside0.mk (below_step bA hb); have n3_ := Aside0.mk (hbox); have n4_ := Aside0.mk (gwA hg bA); have n5_ := Aside0.mk (gwA hg bA); have n6_ := Aside0.mk (neA (g := gb142) hg kA); have n7_ := Aside0.mk (neB (g := gb142) hg kA); have n8_ := Aside0.mk (neA (g := gb143) hg kA); have n9_ := Aside0.mk (neB (g := gb143) hg kA); clear BK142 BK143 HB; have BK142 := n0_; have BK143 := n1_; have HB := n2_; have BK148 := n3_; have GW148 := n4_; have GE148 := n5_; have NB142_148 := n6_; have NB148_142 := n7_; have NB143_148 := n8_; have NB148_143 := n9_; clear n0_ n1_ n2_ n3_ n4_ n5_ n6_ n7_ n8_ n9_ hb hbox hg
        refine hK.out _ _ ⟨(blk_cell BK142.out 0).trans rfl, (blk_cell BK142.out 1).trans rfl⟩ (fun hHeld => ?_)
        clear hK K
        refine norm_ (a' := ?_) ?_ ?_
        rotate_left
        ·show Act.put _ (some 6) _ = _
         simp only [Act.put, List.setIfInBounds_toArray, List.set_cons_zero, List.set_cons_succ, i64_w, i32_w]
         rfl
        exact norm_ (by first | (simp only [putAll, Act.put, List.setIfInBounds_toArray, List.set_cons_zero, List.set_cons_succ]; done) | (simp only [putAll, Act.put, List.setIfInBounds_toArray, List.set_cons_zero, List.set_cons_succ]; rfl)) (hJ3_7_8 (gb148) _ ⟨hHeld, kA, kA, kA, GW148.out, GE148.out, NB142_148.out, NB148_142.out, NB143_148.out, NB148_143.out, bA⟩)
       ·skip
        refine box_step ?hg (N := 7) ?hd (cs := #[.int .u64 0, .int .u64 0]) (t := 76) ?hr ?_; (case hd => rfl); (case hg => rfl); (case hr => first | (go_simp; done) | (go_simp; rfl))
        intro gb149 hg w34 hbox hb
        have n0_ := Aside0.mk (blk_below (g := gb142) kA hb); have n1_ := Aside0.mk (blk_below (g := gb143) kA hb); have n2_ := Aside0.mk (below_step bA hb); have n3_ := Aside0.mk (hbox); have n4_ := Aside0.mk (gwA hg bA); have n5_ := Aside0.mk (gwA hg bA); have n6_ := Aside0.mk (neA (g := gb142) hg kA); have n7_ := Aside0.mk (neB (g := gb142) hg kA); have n8_ := Aside0.mk (neA (g := gb143) hg kA); have n9_ := Aside0.mk (neB (g := gb143) hg kA); clear BK142 BK143 HB; have BK142 := n0_; have BK143 := n1_; have HB := n2_; have BK149 := n3_; have GW149 := n4_; have GE149 := n5_; have NB142_149 := n6_; have NB149_142 := n7_; have NB143_149 := n8_; have NB149_143 := n9_; clear n0_ n1_ n2_ n3_ n4_ n5_ n6_ n7_ n8_ n9_ hb hbox hg
        refine hK.out _ _ ⟨(blk_cell BK142.out 0).trans rfl, (blk_cell BK142.out 1).trans rfl⟩ (fun hHeld => ?_)
        clear hK K
        refine norm_ (a' := ?_) ?_ ?_
        rotate_left
        ·show Act.put _ (some 7) _ = _
         simp only [Act.put, List.setIfInBounds_toArray, List.set_cons_zero, List.set_cons_succ, i64_w, i32_w]
         rfl
        exact norm_ (by first | (simp only [putAll, Act.put, List.setIfInBounds_toArray, List.set_cons_zero, List.set_cons_succ]; done) | (simp only [putAll, Act.put, List.setIfInBounds_toArray, List.set_cons_zero, List.set_cons_succ]; rfl)) (hJ3_7_9 (gb149) _ ⟨hHeld, kA, kA, kA, GW149.out, GE149.out, NB142_149.out, NB149_142.out, NB143_149.out, NB149_143.out, bA⟩)
     ·skip
      rintro ⟨gb148, gb149⟩ w34 ⟨hS_, h0_, h1_, h2_, h3_, h4_, h5_, h6_, h7_, h8_, h9_, h10_, h11_, h12_, h13_, h14_, h15_, h16_, h17_, h18_⟩
      have n0_ : Aside0 (w34.heap[gb142]? = some (.cells #[.int .u64 a0_0, .int .u64 a0_1] 76 (0, 0))) := ⟨h0_⟩
      have n1_ : Aside0 (w34.heap[gb143]? = some (.cells #[.int .u64 0, .int .u64 0] 76 (0, 0))) := ⟨h1_⟩
      have n2_ : Aside0 (w34.heap[gb148]? = some (.cells #[.int .u64 0, .int .u64 0] 76 (0, 0))) := ⟨h2_⟩
      have n3_ : Aside0 (w34.heap[gb149]? = some (.cells #[.int .u64 0, .int .u64 0] 76 (0, 0))) := ⟨h3_⟩
      have n4_ : Aside0 (w.heap.size ≤ gb148) := ⟨h4_⟩
      have n5_ : Aside0 (w.heap.size ≤ gb148) := ⟨h5_⟩
      have n6_ : Aside0 (gb142 ≠ gb148) := ⟨h6_⟩
      have n7_ : Aside0 (gb148 ≠ gb142) := ⟨h7_⟩
      have n8_ : Aside0 (gb143 ≠ gb148) := ⟨h8_⟩
      have n9_ : Aside0 (gb148 ≠ gb143) := ⟨h9_⟩
      have n10_ : Aside0 (gb149 ≠ gb148) := ⟨h10_⟩
      have n11_ : Aside0 (gb148 ≠ gb149) := ⟨h11_⟩
      have n12_ : Aside0 (w.heap.size ≤ gb149) := ⟨h12_⟩
      have n13_ : Aside0 (w.heap.size ≤ gb149) := ⟨h13_⟩
      have n14_ : Aside0 (gb142 ≠ gb149) := ⟨h14_⟩
      have n15_ : Aside0 (gb149 ≠ gb142) := ⟨h15_⟩
      have n16_ : Aside0 (gb143 ≠ gb149) := ⟨h16_⟩
      have n17_ : Aside0 (gb149 ≠ gb143) := ⟨h17_⟩
      have n18_ : Aside0 (Below w.heap.size w w34) := ⟨h18_⟩
      clear BK142 BK143 HB h0_ h1_ h2_ h3_ h4_ h5_ h6_ h7_ h8_ h9_ h10_ h11_ h12_ h13_ h14_ h15_ h16_ h17_ h18_; have BK142 := n0_; have BK143 := n1_; have BK148 := n2_; have BK149 := n3_; have GW148 := n4_; have GE148 := n5_; have NB142_148 := n6_; have NB148_142 := n7_; have NB143_148 := n8_; have NB148_143 := n9_; have NB149_148 := n10_; have NB148_149 := n11_; have GW149 := n12_; have GE149 := n13_; have NB142_149 := n14_; have NB149_142 := n15_; have NB143_149 := n16_; have NB149_143 := n17_; have HB := n18_; clear n0_ n1_ n2_ n3_ n4_ n5_ n6_ n7_ n8_ n9_ n10_ n11_ n12_ n13_ n14_ n15_ n16_ n17_ n18_
      have hHeld : w34.cell? ⟨gb142, 0, none⟩ = some (.int .u64 a0_0) ∧ w34.cell? ⟨gb142, 1, none⟩ = some (.int .u64 a0_1) := hS_
      refine norm_ (a' := ?_) ?_ ?_
      rotate_left
      ·simp only [putAll, Act.put, List.setIfInBounds_toArray, List.set_cons_zero, List.set_cons_succ]
       rfl
      refine one_ (i := 7) (N := some 15) #[true, true, true, true, true, true, true, true, true, true, false, false] rfl rfl (one_of HT_.out (by kernel_rfl)) (by decide) (fun K hK => ?_)
      refine goes_ Tryd.func42 (by kernel_rfl) rfl #[.int .u64 a0_0, .int .u64 a1] (by rfl) rfl rfl aA ?_
      with_reducible refine (wide_Mul.calls a0_0 a1 t146 t147 _ A4.out).mono ?_
      rintro e w35 ⟨rfl, hb⟩
      refine ⟨_, rfl, ?_⟩; have n0_ := Aside0.mk (blk_below (g := gb142) kA hb); have n1_ := Aside0.mk (blk_below (g := gb143) kA hb); have n2_ := Aside0.mk (blk_below (g := gb148) kA hb); have n3_ := Aside0.mk (blk_below (g := gb149) kA hb); have n4_ := Aside0.mk (below_step bA hb); clear BK142 BK143 BK148 BK149 HB; have BK142 := n0_; have BK143 := n1_; have BK148 := n2_; have BK149 := n3_; have HB := n4_; clear n0_ n1_ n2_ n3_ n4_; (try clear hb)
      refine hK.out _ _ ⟨(blk_cell BK142.out 0).trans rfl, (blk_cell BK142.out 1).trans rfl⟩ (fun hHeld => ?_)
      clear hK K
      refine norm_ (a' := ?_) ?_ ?_
      rotate_left
      ·show Act.put _ (some 15) _ = _
       simp only [Act.put, List.setIfInBounds_toArray, List.set_cons_zero, List.set_cons_succ, i64_w, i32_w]
       rfl
      exact norm_ (by first | (simp only [putAll, Act.put, List.setIfInBounds_toArray, List.set_cons_zero, List.set_cons_succ]; done) | (simp only [putAll, Act.put, List.setIfInBounds_toArray, List.set_cons_zero, List.set_cons_succ]; rfl)) (hJ3_7_8_9 (gb148, gb149) _ ⟨hHeld, kA, kA, kA, kA, GW148.out, GE148.out, NB142_148.out, NB148_142.out, NB143_148.out, NB148_143.out, NB149_148.out, NB148_149.out, GW149.out, GE149.out, NB142_149.out, NB149_142.out, NB143_149.out, NB149_143.out, bA⟩)
    ·skip
     rintro gb149 w34 ⟨hS_, h0_, h1_, h2_, h3_, h4_, h5_, h6_, h7_, h8_, h9_⟩
     have n0_ : Aside0 (w34.heap[gb142]? = some (.cells #[.int .u64 a0_0, .int .u64 a0_1] 76 (0, 0))) := ⟨h0_⟩
     have n1_ : Aside0 (w34.heap[gb143]? = some (.cells #[.int .u64 0, .int .u64 0] 76 (0, 0))) := ⟨h1_⟩
     have n2_ : Aside0 (w34.heap[gb149]? = some (.cells #[.int .u64 0, .int .u64 0] 76 (0, 0))) := ⟨h2_⟩
     have n3_ : Aside0 (w.heap.size ≤ gb149) := ⟨h3_⟩
     have n4_ : Aside0 (w.heap.size ≤ gb149) := ⟨h4_⟩
     have n5_ : Aside0 (gb142 ≠ gb149) := ⟨h5_⟩
     have n6_ : Aside0 (gb149 ≠ gb142) := ⟨h6_⟩
     have n7_ : Aside0 (gb143 ≠ gb149) := ⟨h7_⟩
     have n8_ : Aside0 (gb149 ≠ gb143) := ⟨h8_⟩
     have n9_ : Aside0 (Below w.heap.size w w34) := ⟨h9_⟩
     clear BK142 BK143 HB h0_ h1_ h2_ h3_ h4_ h5_ h6_ h7_ h8_ h9_; have BK142 := n0_; have BK143 := n1_; have BK149 := n2_; have GW149 := n3_; have GE149 := n4_; have NB142_149 := n5_; have NB149_142 := n6_; have NB143_149 := n7_; have NB149_143 := n8_; have HB := n9_; clear n0_ n1_ n2_ n3_ n4_ n5_ n6_ n7_ n8_ n9_
     have hHeld : w34.cell? ⟨gb142, 0, none⟩ = some (.int .u64 a0_0) ∧ w34.cell? ⟨gb142, 1, none⟩ = some (.int .u64 a0_1) := hS_
     refine norm_ (a' := ?_) ?_ ?_
     rotate_left
     ·simp only [putAll, Act.put, List.setIfInBounds_toArray, List.set_cons_zero, List.set_cons_succ]
      rfl
     refine one_ (i := 8) (N := some 6) #[true, true, true, true, true, true, true, true, true, true, false, false] rfl rfl (one_of HT_.out (by kernel_rfl)) (by decide) (fun K hK => ?_)
     refine box_step ?hg (N := 6) ?hd (cs := #[.int .u64 0, .int .u64 0]) (t := 76) ?hr ?_; (case hd => rfl); (case hg => rfl); (case hr => first | (go_simp; done) | (go_simp; rfl))
     intro gb148 hg w35 hbox hb
     have n0_ := Aside0.mk (blk_below (g := gb142) kA hb); have n1_ := Aside0.mk (blk_below (g := gb143) kA hb); have n2_ := Aside0.mk (blk_below (g := gb149) kA hb); have n3_ := Aside0.mk (below_step bA hb); have n4_ := Aside0.mk (hbox); have n5_ := Aside0.mk (gwA hg bA); have n6_ := Aside0.mk (gwA hg bA); have n7_ := Aside0.mk (neA (g := gb142) hg kA); have n8_ := Aside0.mk (neB (g := gb142) hg kA); have n9_ := Aside0.mk (neA (g := gb143) hg kA); have n10_ := Aside0.mk (neB (g := gb143) hg kA); have n11_ := Aside0.mk (neA (g := gb149) hg kA); have n12_ := Aside0.mk (neB (g := gb149) hg kA); clear BK142 BK143 BK149 HB; have BK142 := n0_; have BK143 := n1_; have BK149 := n2_; have HB := n3_; have BK148 := n4_; have GW148 := n5_; have GE148 := n6_; have NB142_148 := n7_; have NB148_142 := n8_; have NB143_148 := n9_; have NB148_143 := n10_; have NB149_148 := n11_; have NB148_149 := n12_; clear n0_ n1_ n2_ n3_ n4_ n5_ n6_ n7_ n8_ n9_ n10_ n11_ n12_ hb hbox hg
     refine hK.out _ _ ⟨(blk_cell BK142.out 0).trans rfl, (blk_cell BK142.out 1).trans rfl⟩ (fun hHeld => ?_)
     clear hK K
     refine norm_ (a' := ?_) ?_ ?_
     rotate_left
     ·show Act.put _ (some 6) _ = _
      simp only [Act.put, List.setIfInBounds_toArray, List.set_cons_zero, List.set_cons_succ, i64_w, i32_w]
      rfl
     exact norm_ (by first | (simp only [putAll, Act.put, List.setIfInBounds_toArray, List.set_cons_zero, List.set_cons_succ]; done) | (simp only [putAll, Act.put, List.setIfInBounds_toArray, List.set_cons_zero, List.set_cons_succ]; rfl)) (hJ3_7_8_9 (gb148, gb149) _ ⟨hHeld, kA, kA, kA, kA, GW148.out, GE148.out, NB142_148.out, NB148_142.out, NB143_148.out, NB148_143.out, NB149_148.out, NB148_149.out, GW149.out, GE149.out, NB142_149.out, NB149_142.out, NB143_149.out, NB149_143.out, bA⟩)
   ·skip
    rintro gb148 w34 ⟨hS_, h0_, h1_, h2_, h3_, h4_, h5_, h6_, h7_, h8_, h9_⟩
    have n0_ : Aside0 (w34.heap[gb142]? = some (.cells #[.int .u64 a0_0, .int .u64 a0_1] 76 (0, 0))) := ⟨h0_⟩
    have n1_ : Aside0 (w34.heap[gb143]? = some (.cells #[.int .u64 0, .int .u64 0] 76 (0, 0))) := ⟨h1_⟩
    have n2_ : Aside0 (w34.heap[gb148]? = some (.cells #[.int .u64 0, .int .u64 0] 76 (0, 0))) := ⟨h2_⟩
    have n3_ : Aside0 (w.heap.size ≤ gb148) := ⟨h3_⟩
    have n4_ : Aside0 (w.heap.size ≤ gb148) := ⟨h4_⟩
    have n5_ : Aside0 (gb142 ≠ gb148) := ⟨h5_⟩
    have n6_ : Aside0 (gb148 ≠ gb142) := ⟨h6_⟩
    have n7_ : Aside0 (gb143 ≠ gb148) := ⟨h7_⟩
    have n8_ : Aside0 (gb148 ≠ gb143) := ⟨h8_⟩
    have n9_ : Aside0 (Below w.heap.size w w34) := ⟨h9_⟩
    clear BK142 BK143 HB h0_ h1_ h2_ h3_ h4_ h5_ h6_ h7_ h8_ h9_; have BK142 := n0_; have BK143 := n1_; have BK148 := n2_; have GW148 := n3_; have GE148 := n4_; have NB142_148 := n5_; have NB148_142 := n6_; have NB143_148 := n7_; have NB148_143 := n8_; have HB := n9_; clear n0_ n1_ n2_ n3_ n4_ n5_ n6_ n7_ n8_ n9_
    have hHeld : w34.cell? ⟨gb142, 0, none⟩ = some (.int .u64 a0_0) ∧ w34.cell? ⟨gb142, 1, none⟩ = some (.int .u64 a0_1) := hS_
    refine norm_ (a' := ?_) ?_ ?_
    rotate_left
    ·simp only [putAll, Act.put, List.setIfInBounds_toArray, List.set_cons_zero, List.set_cons_succ]
     rfl
    refine one_ (i := 9) (N := some 7) #[true, true, true, true, true, true, true, true, true, true, false, false] rfl rfl (one_of HT_.out (by kernel_rfl)) (by decide) (fun K hK => ?_)
    refine box_step ?hg (N := 7) ?hd (cs := #[.int .u64 0, .int .u64 0]) (t := 76) ?hr ?_; (case hd => rfl); (case hg => rfl); (case hr => first | (go_simp; done) | (go_simp; rfl))
    intro gb149 hg w35 hbox hb
    have n0_ := Aside0.mk (blk_below (g := gb142) kA hb); have n1_ := Aside0.mk (blk_below (g := gb143) kA hb); have n2_ := Aside0.mk (blk_below (g := gb148) kA hb); have n3_ := Aside0.mk (below_step bA hb); have n4_ := Aside0.mk (hbox); have n5_ := Aside0.mk (gwA hg bA); have n6_ := Aside0.mk (gwA hg bA); have n7_ := Aside0.mk (neA (g := gb142) hg kA); have n8_ := Aside0.mk (neB (g := gb142) hg kA); have n9_ := Aside0.mk (neA (g := gb143) hg kA); have n10_ := Aside0.mk (neB (g := gb143) hg kA); have n11_ := Aside0.mk (neA (g := gb148) hg kA); have n12_ := Aside0.mk (neB (g := gb148) hg kA); clear BK142 BK143 BK148 HB; have BK142 := n0_; have BK143 := n1_; have BK148 := n2_; have HB := n3_; have BK149 := n4_; have GW149 := n5_; have GE149 := n6_; have NB142_149 := n7_; have NB149_142 := n8_; have NB143_149 := n9_; have NB149_143 := n10_; have NB148_149 := n11_; have NB149_148 := n12_; clear n0_ n1_ n2_ n3_ n4_ n5_ n6_ n7_ n8_ n9_ n10_ n11_ n12_ hb hbox hg
    refine hK.out _ _ ⟨(blk_cell BK142.out 0).trans rfl, (blk_cell BK142.out 1).trans rfl⟩ (fun hHeld => ?_)
    clear hK K
    refine norm_ (a' := ?_) ?_ ?_
    rotate_left
    ·show Act.put _ (some 7) _ = _
     simp only [Act.put, List.setIfInBounds_toArray, List.set_cons_zero, List.set_cons_succ, i64_w, i32_w]
     rfl
    exact norm_ (by first | (simp only [putAll, Act.put, List.setIfInBounds_toArray, List.set_cons_zero, List.set_cons_succ]; done) | (simp only [putAll, Act.put, List.setIfInBounds_toArray, List.set_cons_zero, List.set_cons_succ]; rfl)) (hJ3_7_8_9 (gb148, gb149) _ ⟨hHeld, kA, kA, kA, kA, GW148.out, GE148.out, NB142_148.out, NB148_142.out, NB143_148.out, NB148_143.out, NB149_148.out, NB148_149.out, GW149.out, GE149.out, NB142_149.out, NB149_142.out, NB143_149.out, NB149_143.out, bA⟩)
  rintro ⟨gb148, gb149⟩ w35 ⟨hS_, h0_, h1_, h2_, h3_, h4_, h5_, h6_, h7_, h8_, h9_, h10_, h11_, h12_, h13_, h14_, h15_, h16_, h17_, h18_⟩
  have n0_ : Aside0 (w35.heap[gb142]? = some (.cells #[.int .u64 a0_0, .int .u64 a0_1] 76 (0, 0))) := ⟨h0_⟩
  have n1_ : Aside0 (w35.heap[gb143]? = some (.cells #[.int .u64 0, .int .u64 0] 76 (0, 0))) := ⟨h1_⟩
  have n2_ : Aside0 (w35.heap[gb148]? = some (.cells #[.int .u64 0, .int .u64 0] 76 (0, 0))) := ⟨h2_⟩
  have n3_ : Aside0 (w35.heap[gb149]? = some (.cells #[.int .u64 0, .int .u64 0] 76 (0, 0))) := ⟨h3_⟩
  have n4_ : Aside0 (w.heap.size ≤ gb148) := ⟨h4_⟩
  have n5_ : Aside0 (w.heap.size ≤ gb148) := ⟨h5_⟩
  have n6_ : Aside0 (gb142 ≠ gb148) := ⟨h6_⟩
  have n7_ : Aside0 (gb148 ≠ gb142) := ⟨h7_⟩
  have n8_ : Aside0 (gb143 ≠ gb148) := ⟨h8_⟩
  have n9_ : Aside0 (gb148 ≠ gb143) := ⟨h9_⟩
  have n10_ : Aside0 (gb149 ≠ gb148) := ⟨h10_⟩
  have n11_ : Aside0 (gb148 ≠ gb149) := ⟨h11_⟩
  have n12_ : Aside0 (w.heap.size ≤ gb149) := ⟨h12_⟩
  have n13_ : Aside0 (w.heap.size ≤ gb149) := ⟨h13_⟩
  have n14_ : Aside0 (gb142 ≠ gb149) := ⟨h14_⟩
  have n15_ : Aside0 (gb149 ≠ gb142) := ⟨h15_⟩
  have n16_ : Aside0 (gb143 ≠ gb149) := ⟨h16_⟩
  have n17_ : Aside0 (gb149 ≠ gb143) := ⟨h17_⟩
  have n18_ : Aside0 (Below w.heap.size w w35) := ⟨h18_⟩
  clear BK142 BK143 HB h0_ h1_ h2_ h3_ h4_ h5_ h6_ h7_ h8_ h9_ h10_ h11_ h12_ h13_ h14_ h15_ h16_ h17_ h18_; have BK142 := n0_; have BK143 := n1_; have BK148 := n2_; have BK149 := n3_; have GW148 := n4_; have GE148 := n5_; have NB142_148 := n6_; have NB148_142 := n7_; have NB143_148 := n8_; have NB148_143 := n9_; have NB149_148 := n10_; have NB148_149 := n11_; have GW149 := n12_; have GE149 := n13_; have NB142_149 := n14_; have NB149_142 := n15_; have NB143_149 := n16_; have NB149_143 := n17_; have HB := n18_; clear n0_ n1_ n2_ n3_ n4_ n5_ n6_ n7_ n8_ n9_ n10_ n11_ n12_ n13_ n14_ n15_ n16_ n17_ n18_
  have hHeld : w35.cell? ⟨gb142, 0, none⟩ = some (.int .u64 a0_0) ∧ w35.cell? ⟨gb142, 1, none⟩ = some (.int .u64 a0_1) := hS_
  refine norm_ (a' := ?_) ?_ ?_
  rotate_left
  ·simp only [putAll, Act.put, List.setIfInBounds_toArray, List.set_cons_zero, List.set_cons_succ]
   rfl
  refine one_ (i := 10) (N := none) #[true, true, true, true, true, true, true, true, true, true, true, false] rfl rfl (one_of HT_.out (by kernel_rfl)) (by decide) (fun K hK => ?_)
  have hs36 : w35.cell? ⟨gb148, 0, none⟩ = some (.int .u64 0) := (blk_cell BK148.out 0).trans rfl
  have hfs36 := blk_frozen BK148.out 0
  have hns36_0 := NB142_148.out
  have hns36_1 := NB143_148.out
  have hns36_3 := NB149_148.out
  have hms36_0 := NB148_142.out
  have hms36_1 := NB148_143.out
  have hms36_3 := NB148_149.out
  have hs37 : w35.cell? ⟨gb148, 1, none⟩ = some (.int .u64 0) := (blk_cell BK148.out 1).trans rfl
  have hfs37 := blk_frozen BK148.out 1
  have hns37_0 := NB142_148.out
  have hns37_1 := NB143_148.out
  have hns37_3 := NB149_148.out
  have hms37_0 := NB148_142.out
  have hms37_1 := NB148_143.out
  have hms37_3 := NB148_149.out
  refine skip_ (w1 := ?_) (by rfl) rfl ?_ ?_
  rotate_left
  ·go_simp
   rfl
  refine hK.out _ _ ⟨((cell_far (p := ⟨gb148, _, none⟩) NB142_148.out _).trans (((cell_far (p := ⟨gb148, _, none⟩) NB142_148.out _).trans (hHeld.1)))), ((cell_far (p := ⟨gb148, _, none⟩) NB142_148.out _).trans (((cell_far (p := ⟨gb148, _, none⟩) NB142_148.out _).trans (hHeld.2))))⟩ (fun hHeld => ?_)
  clear hK K
  refine one_ (i := 11) (N := none) #[true, true, true, true, true, true, true, true, true, true, true, true] rfl rfl (one_of HT_.out (by kernel_rfl)) (by decide) (fun K hK => ?_)
  have hs38 : w35.cell? ⟨gb149, 0, none⟩ = some (.int .u64 0) := (blk_cell BK149.out 0).trans rfl
  have hfs38 := blk_frozen BK149.out 0
  have hns38_0 := NB142_149.out
  have hns38_1 := NB143_149.out
  have hns38_2 := NB148_149.out
  have hms38_0 := NB149_142.out
  have hms38_1 := NB149_143.out
  have hms38_2 := NB149_148.out
  have hs39 : w35.cell? ⟨gb149, 1, none⟩ = some (.int .u64 0) := (blk_cell BK149.out 1).trans rfl
  have hfs39 := blk_frozen BK149.out 1
  have hns39_0 := NB142_149.out
  have hns39_1 := NB143_149.out
  have hns39_2 := NB148_149.out
  have hms39_0 := NB149_142.out
  have hms39_1 := NB149_143.out
  have hms39_2 := NB149_148.out
  refine skip_ (w1 := ?_) (by rfl) rfl ?_ ?_
  rotate_left
  ·go_simp
   rfl
  refine hK.out _ _ ⟨((cell_far (p := ⟨gb149, _, none⟩) NB142_149.out _).trans (((cell_far (p := ⟨gb149, _, none⟩) NB142_149.out _).trans (hHeld.1)))), ((cell_far (p := ⟨gb149, _, none⟩) NB142_149.out _).trans (((cell_far (p := ⟨gb149, _, none⟩) NB142_149.out _).trans (hHeld.2))))⟩ (fun hHeld => ?_)
  clear hK K
  refine done_ (done_of HT_.out (by kernel_rfl)) ?_
  have hnb40 := NB149_142.out
  have hnc40 := NB142_149.out
  have hnb41 := NB149_143.out
  have hnc41 := NB143_149.out
  have hnb42 := NB149_148.out
  have hnc42 := NB148_149.out
  have hcz43_0 : w35.cell? ⟨gb149, 0, none⟩ = some (.int .u64 0) := (blk_cell BK149.out 0).trans rfl
  have hcz43_1 : w35.cell? ⟨gb149, 1, none⟩ = some (.int .u64 0) := (blk_cell BK149.out 1).trans rfl
  have hfz43_0 := blk_frozen BK149.out 0
  have hfz43_1 := blk_frozen BK149.out 1
  have hnb44 := NB148_142.out
  have hnc44 := NB142_148.out
  have hnb45 := NB148_143.out
  have hnc45 := NB143_148.out
  have hcz46_0 : w35.cell? ⟨gb148, 0, none⟩ = some (.int .u64 0) := (blk_cell BK148.out 0).trans rfl
  have hcz46_1 : w35.cell? ⟨gb148, 1, none⟩ = some (.int .u64 0) := (blk_cell BK148.out 1).trans rfl
  have hfz46_0 := blk_frozen BK148.out 0
  have hfz46_1 := blk_frozen BK148.out 1
  try go_wp2_with (first | ((with_reducible refine gate_callee (f := 46) rfl ?_); refine goesL_ (some 24) rfl rfl Tryd.func46 (by kernel_rfl) rfl #[.agg #[.int .u64 t144, .int .u64 t145], .agg #[.int .u64 t147, .int .u64 0]] rfl aA ?_; (with_reducible refine (wide_Add.calls t144 t145 t147 0 t152 t153 t154 _ A27.out).mono ?_); rintro e w47 ⟨rfl, hb⟩; refine ⟨_, rfl, ?_⟩; have n0_ := Aside0.mk (blk_below (g := gb142) (o := .cells #[.int .u64 a0_0, .int .u64 a0_1] 76 (0, 0)) (by (with_reducible repeat (first | refine blk_drewN ?_ _ | refine blk_drew ?_ | refine blk_alloc ?_ _)); refine blk_far ?_ NB142_149.out _; (with_reducible repeat (first | refine blk_drewN ?_ _ | refine blk_drew ?_ | refine blk_alloc ?_ _)); refine blk_far ?_ NB142_149.out _; (with_reducible repeat (first | refine blk_drewN ?_ _ | refine blk_drew ?_ | refine blk_alloc ?_ _)); refine blk_far ?_ NB142_148.out _; (with_reducible repeat (first | refine blk_drewN ?_ _ | refine blk_drew ?_ | refine blk_alloc ?_ _)); refine blk_far ?_ NB142_148.out _; exact kA) hb); have n1_ := Aside0.mk (blk_below (g := gb143) (o := .cells #[.int .u64 0, .int .u64 0] 76 (0, 0)) (by (with_reducible repeat (first | refine blk_drewN ?_ _ | refine blk_drew ?_ | refine blk_alloc ?_ _)); refine blk_far ?_ NB143_149.out _; (with_reducible repeat (first | refine blk_drewN ?_ _ | refine blk_drew ?_ | refine blk_alloc ?_ _)); refine blk_far ?_ NB143_149.out _; (with_reducible repeat (first | refine blk_drewN ?_ _ | refine blk_drew ?_ | refine blk_alloc ?_ _)); refine blk_far ?_ NB143_148.out _; (with_reducible repeat (first | refine blk_drewN ?_ _ | refine blk_drew ?_ | refine blk_alloc ?_ _)); refine blk_far ?_ NB143_148.out _; exact kA) hb); have n2_ := Aside0.mk (blk_below (g := gb148) (o := .cells #[.int .u64 t144, .int .u64 t145] 76 (0, 0)) (by (with_reducible repeat (first | refine blk_drewN ?_ _ | refine blk_drew ?_ | refine blk_alloc ?_ _)); refine blk_far ?_ NB148_149.out _; (with_reducible repeat (first | refine blk_drewN ?_ _ | refine blk_drew ?_ | refine blk_alloc ?_ _)); refine blk_far ?_ NB148_149.out _; (with_reducible repeat (first | refine blk_drewN ?_ _ | refine blk_drew ?_ | refine blk_alloc ?_ _)); refine blk_put (cs := #[.int .u64 t144, .int .u64 0]) ?_ 1 _ rfl; (with_reducible repeat (first | refine blk_drewN ?_ _ | refine blk_drew ?_ | refine blk_alloc ?_ _)); refine blk_put (cs := #[.int .u64 0, .int .u64 0]) ?_ 0 _ rfl; exact kA) hb); have n3_ := Aside0.mk (blk_below (g := gb149) (o := .cells #[.int .u64 t146, .int .u64 t147] 76 (0, 0)) (by (with_reducible repeat (first | refine blk_drewN ?_ _ | refine blk_drew ?_ | refine blk_alloc ?_ _)); refine blk_put (cs := #[.int .u64 t146, .int .u64 0]) ?_ 1 _ rfl; (with_reducible repeat (first | refine blk_drewN ?_ _ | refine blk_drew ?_ | refine blk_alloc ?_ _)); refine blk_put (cs := #[.int .u64 0, .int .u64 0]) ?_ 0 _ rfl; (with_reducible repeat (first | refine blk_drewN ?_ _ | refine blk_drew ?_ | refine blk_alloc ?_ _)); refine blk_far ?_ NB149_148.out _; (with_reducible repeat (first | refine blk_drewN ?_ _ | refine blk_drew ?_ | refine blk_alloc ?_ _)); refine blk_far ?_ NB149_148.out _; exact kA) hb); have n4_ := Aside0.mk (below_step bA hb); clear BK142 BK143 BK148 BK149 HB; have BK142 := n0_; have BK143 := n1_; have BK148 := n2_; have BK149 := n3_; have HB := n4_; clear n0_ n1_ n2_ n3_ n4_; (try clear hb); have hnb48 := NB143_142.out; have hnc48 := NB142_143.out; have hcz49_0 : w47.cell? ⟨gb143, 0, none⟩ = some (.int .u64 0) := (blk_cell BK143.out 0).trans rfl; have hcz49_1 : w47.cell? ⟨gb143, 1, none⟩ = some (.int .u64 0) := (blk_cell BK143.out 1).trans rfl; have hfz49_0 := blk_frozen BK143.out 0; have hfz49_1 := blk_frozen BK143.out 1))
  refine bodyPost_ret (results_ct rfl _ _ gb143 76 #[.int .u64 t152, .int .u64 t153] (0, 0) _ rfl (by (with_reducible repeat (first | refine blk_drewN ?_ _ | refine blk_drew ?_ | refine blk_alloc ?_ _)); refine blk_put (cs := #[.int .u64 t152, .int .u64 0]) ?_ 1 _ rfl; (with_reducible repeat (first | refine blk_drewN ?_ _ | refine blk_drew ?_ | refine blk_alloc ?_ _)); refine blk_put (cs := #[.int .u64 0, .int .u64 0]) ?_ 0 _ rfl; exact kA) Tryd.underlying76 rfl (by kernel_rfl)) rfl ?_
  exact ⟨by first | rfl | (simp [errW_none, errW_some] <;> rfl) | (simp [*, errW_none, errW_some] <;> rfl), bA⟩

end Go.Proofs.YtbhijfbjdbjpbaaDoor.GSH
