-- Laid by a program of this session (wip/tools/pr.py): contracts and pure functions; Lean checks it.
import Derived.Test.YtmgmggkebmgafaaDoorGKx0
import Derived.Test.YtmgmggkebmgafaaDoorGKx1
import Derived.Test.YtmgmggkebmgafaaDoorGKx2
import Derived.Test.YtmgmggkebmgafaaDoorGKx3
namespace Go.Proofs.YtmgmggkebmgafaaDoor.GK
open Go.RowKit Go.Proofs.YtmgmggkebmgafaaDoorW.PrintWords Go.Proofs.YtmgmggkebmgafaaDoorW.PrintLast Go.Proofs.YtmgmggkebmgafaaDoorW.PrintMore
attribute [local go_sem] max2_int min2_int max_two min_two max_three min_three max_four min_four   -- for this text's walks alone
set_option linter.unusedVariables false
set_option linter.unusedSimpArgs false

/-! ### backfillref04_up: function 57 -/
def backfillref04_up.f (a0_0 : Int) (a0_1 : Int) : Option (Int × Int) := (backfillref01_Of.f 1).bind fun bt209 => ((backfillref01_Add.f a0_0 a0_1 bt209.1 bt209.2).bind fun bt211 => (some (bt211.1, bt211.2.1)))
def backfillref04_up.T1 : Bool × List (List Nat × List Nat) := (true, [([], []), ([], []), ([0, 1, 1], [0, 1]), ([2], [2]), ([3], [3]), ([3], [3]), ([], []), ([6, 4, 2, 0, 1, 2, 3, 4, 6], [4, 6]), ([5, 7, 0, 1, 2, 3, 4, 5, 6, 7], [5])])
def backfillref04_up.B1 : List Nat := [0, 0, 3, 7, 15, 15, 0, 95, 255]
theorem backfillref04_up.tab1 : rtab .any (opsOf Tryd.f57 1) = backfillref04_up.T1 := by kernel_rfl
theorem backfillref04_up.bits1 : waitsOk backfillref04_up.T1.2 backfillref04_up.B1 = true := by kernel_rfl
set_option maxHeartbeats 8000000 in
set_option maxRecDepth 100000 in
theorem backfillref04_up.calls (a0_0 : Int) (a0_1 : Int) (r1 : Int) (r2 : Int) (w : World) (h : backfillref04_up.f a0_0 a0_1 = some (r1, r2)) :
  Calls Tryd.prog 57 #[.agg #[.int .u64 a0_0, .int .u64 a0_1]] w fun e w' => e = .returned (.agg #[.int .u64 r1, .int .u64 r2]) ∧ Below w.heap.size w w' := by
 have hu26 := Tryd.underlying26
 have HB := Aside0.mk (Below.refl w.heap.size w)
 have H : ((backfillref01_Of.f 1).bind fun bt209 => ((backfillref01_Add.f a0_0 a0_1 bt209.1 bt209.2).bind fun bt211 => (some (bt211.1, bt211.2.1)))) = some (r1, r2) := h
 clear h; replace H := Option.bind_eq_some_iff.mp H; obtain ⟨⟨t209, t210⟩, A20, H⟩ := H; replace H : ((backfillref01_Add.f a0_0 a0_1 t209 t210).bind fun bt211 => (some (bt211.1, bt211.2.1))) = some (r1, r2) := H; have A2 := Aside0.mk A20; clear A20; replace H := Option.bind_eq_some_iff.mp H; obtain ⟨⟨t211, t212, t213⟩, A30, H⟩ := H; replace H : (some (t211, t212)) = some (r1, r2) := H; have A3 := Aside0.mk A30; clear A30
 simp only [Option.some.injEq, Prod.mk.injEq] at H
 obtain ⟨rfl, rfl⟩ := H
 go_enter Tryd.func57, Tryd.ntmps57
 try go_wp2_with (first | ((with_reducible refine gate_dst (N := 1) rfl ?_); refine bxA 1 #[.int .u64 a0_0, .int .u64 a0_1] 26 ?_; intro gb207 hg w4 hbox hb; have n0_ := Aside0.mk (below_step bA hb); have n1_ := Aside0.mk (hbox); have n2_ := Aside0.mk ((by rw [hg]; exact (below_size bA) : w.heap.size ≤ gb207)); have n3_ := Aside0.mk ((by rw [hg]; exact (below_size bA) : w.heap.size ≤ gb207)); clear HB; have HB := n0_; have BK207 := n1_; have GW207 := n2_; have GE207 := n3_; clear n0_ n1_ n2_ n3_ hb hbox hg) | ((with_reducible refine gate_dst (N := 2) rfl ?_); refine bxA 2 #[.int .u64 0, .int .u64 0] 26 ?_; intro gb208 hg w5 hbox hb; have n0_ := Aside0.mk (blk_below (g := gb207) (o := .cells #[.int .u64 a0_0, .int .u64 a0_1] 26 (0, 0)) kA hb); have n1_ := Aside0.mk (below_step bA hb); have n2_ := Aside0.mk (hbox); have n3_ := Aside0.mk ((by rw [hg]; exact (below_size bA) : w.heap.size ≤ gb208)); have n4_ := Aside0.mk ((by rw [hg]; exact (below_size bA) : w.heap.size ≤ gb208)); have n5_ := Aside0.mk ((by rw [hg]; exact Nat.ne_of_lt (blk_lt (g := gb207) (o := .cells #[.int .u64 a0_0, .int .u64 a0_1] 26 (0, 0)) kA) : gb207 ≠ gb208)); have n6_ := Aside0.mk ((by rw [hg]; exact Nat.ne_of_gt (blk_lt (g := gb207) (o := .cells #[.int .u64 a0_0, .int .u64 a0_1] 26 (0, 0)) kA) : gb208 ≠ gb207)); clear BK207 HB; have BK207 := n0_; have HB := n1_; have BK208 := n2_; have GW208 := n3_; have GE208 := n4_; have NB207_208 := n5_; have NB208_207 := n6_; clear n0_ n1_ n2_ n3_ n4_ n5_ n6_ hb hbox hg))
 have n0_ := Aside0.mk (blk_drew BK207.out); have n1_ := Aside0.mk (blk_drew BK208.out); have n2_ := Aside0.mk (below_drew1 HB.out); clear BK207 BK208 HB; have BK207 := n0_; have BK208 := n1_; have HB := n2_; clear n0_ n1_ n2_
 refine start_ (n := 9) (S := fun w' => w'.cell? ⟨gb207, 0, none⟩ = some (.int .u64 a0_0) ∧ w'.cell? ⟨gb207, 1, none⟩ = some (.int .u64 a0_1)) (ds := []) #[false, false, false, false, false, false, false, false, false] (by kernel_rfl) rfl rfl ⟨(blk_cell BK207.out 0).trans rfl, (blk_cell BK207.out 1).trans rfl⟩ (fun hHeld => ?_); refine with_tabW backfillref04_up.tab1 backfillref04_up.bits1 (fun HT_ HW_ => ?_)
 generalize w5.drew = w6 at BK207 BK208 HB hHeld ⊢
 refine take_ (i := 0) (N := some 6) (v := ?_) (a' := ?_) #[true, false, false, false, false, false, false, false, false] rfl rfl (take_ofW HT_.out HW_.out (by kernel_rfl)) (fun _ _ _ h => h) (Or.inl ⟨by rfl, ?_⟩) hHeld ?_ ?_
 rotate_left
 ·rintro w' ⟨s0, s1⟩
  go_simp; with_reducible rfl
 rotate_left
 ·simp only [Act.put, List.setIfInBounds_toArray, List.set_cons_zero, List.set_cons_succ, i64_w, i32_w]
  rfl
 refine join_ (σ := Nat) 2 #[true, true, true, true, true, true, true, false, false] (fun s_ => [(7, .agg #[.int .u64 t209, .int .u64 t210]), (8, .tuple #[.agg #[.int .u64 t211, .int .u64 t212], .bool t213]), (3, .pointer (some ⟨s_, 0, none⟩)), (5, .tuple #[.agg #[.int .u64 t211, .int .u64 t212], .bool t213]), (9, .agg #[.int .u64 t211, .int .u64 t212]), (10, .bool t213)]) (fun s_ w' => (w'.cell? ⟨gb207, 0, none⟩ = some (.int .u64 a0_0) ∧ w'.cell? ⟨gb207, 1, none⟩ = some (.int .u64 a0_1)) ∧ (w'.heap[gb207]? = some (.cells #[.int .u64 a0_0, .int .u64 a0_1] 26 (0, 0))) ∧ (w'.heap[gb208]? = some (.cells #[.int .u64 0, .int .u64 0] 26 (0, 0))) ∧ (w'.heap[s_]? = some (.cells #[.int .u64 0, .int .u64 0] 26 (0, 0))) ∧ (w.heap.size ≤ s_) ∧ (w.heap.size ≤ s_) ∧ (gb207 ≠ s_) ∧ (s_ ≠ gb207) ∧ (gb208 ≠ s_) ∧ (s_ ≠ gb208) ∧ (Below w.heap.size w w')) ?_ ?_
 rotate_left
 ·intro hCont
  refine two_ (i := 1) (j := 6) (Ni := some 7) (Nj := some 3) #[true, true, false, false, false, false, false, false, false] #[true, false, false, false, false, false, true, false, false] rfl rfl rfl rfl (two_of HT_.out (by kernel_rfl)) (by decide) (by decide) (fun K hK => ?_) (fun K hK => ?_)
  ·skip
   refine goes_ Tryd.func48 (by kernel_rfl) rfl #[.int .u64 1] (by rfl) rfl rfl aA ?_
   with_reducible refine (backfillref01_Of.calls 1 t209 t210 _ A2.out).mono ?_
   rintro e w7 ⟨rfl, hb⟩
   refine ⟨_, rfl, ?_⟩; have n0_ := Aside0.mk (blk_below (g := gb207) (o := .cells #[.int .u64 a0_0, .int .u64 a0_1] 26 (0, 0)) kA hb); have n1_ := Aside0.mk (blk_below (g := gb208) (o := .cells #[.int .u64 0, .int .u64 0] 26 (0, 0)) kA hb); have n2_ := Aside0.mk (below_step bA hb); clear BK207 BK208 HB; have BK207 := n0_; have BK208 := n1_; have HB := n2_; clear n0_ n1_ n2_; (try clear hb)
   refine hK.out _ _ ⟨(blk_cell BK207.out 0).trans rfl, (blk_cell BK207.out 1).trans rfl⟩ (fun hHeld => ?_)
   clear hK K
   refine norm_ (a' := ?_) ?_ ?_
   rotate_left
   ·show Act.put _ (some 7) _ = _
    simp only [Act.put, List.setIfInBounds_toArray, List.set_cons_zero, List.set_cons_succ, i64_w, i32_w]
    rfl
   refine two_ (i := 2) (j := 6) (Ni := some 8) (Nj := some 3) #[true, true, true, false, false, false, false, false, false] #[true, true, false, false, false, false, true, false, false] rfl rfl rfl rfl (two_of HT_.out (by kernel_rfl)) (by decide) (by decide) (fun K hK => ?_) (fun K hK => ?_)
   ·skip
    refine goes_ Tryd.func47 (by kernel_rfl) rfl #[.agg #[.int .u64 a0_0, .int .u64 a0_1], .agg #[.int .u64 t209, .int .u64 t210]] (by rfl) rfl rfl aA ?_
    with_reducible refine (backfillref01_Add.calls a0_0 a0_1 t209 t210 t211 t212 t213 _ A3.out).mono ?_
    rintro e w8 ⟨rfl, hb⟩
    refine ⟨_, rfl, ?_⟩; have n0_ := Aside0.mk (blk_below (g := gb207) (o := .cells #[.int .u64 a0_0, .int .u64 a0_1] 26 (0, 0)) kA hb); have n1_ := Aside0.mk (blk_below (g := gb208) (o := .cells #[.int .u64 0, .int .u64 0] 26 (0, 0)) kA hb); have n2_ := Aside0.mk (below_step bA hb); clear BK207 BK208 HB; have BK207 := n0_; have BK208 := n1_; have HB := n2_; clear n0_ n1_ n2_; (try clear hb)
    refine hK.out _ _ ⟨(blk_cell BK207.out 0).trans rfl, (blk_cell BK207.out 1).trans rfl⟩ (fun hHeld => ?_)
    clear hK K
    refine norm_ (a' := ?_) ?_ ?_
    rotate_left
    ·show Act.put _ (some 8) _ = _
     simp only [Act.put, List.setIfInBounds_toArray, List.set_cons_zero, List.set_cons_succ, i64_w, i32_w]
     rfl
    refine pure_ (i := 3) (N := some 5) (v := ?_) (a' := ?_) #[true, true, true, true, false, false, false, false, false] rfl rfl (any_of HT_.out (by kernel_rfl)) (fun _ _ _ h => h) (Or.inl ⟨by rfl, ?_⟩) ?_ ?_
    rotate_left
    ·intro w'
     go_simp; with_reducible rfl
    rotate_left
    ·simp only [Act.put, List.setIfInBounds_toArray, List.set_cons_zero, List.set_cons_succ, i64_w, i32_w]
     rfl
    refine pure_ (i := 4) (N := some 9) (v := ?_) (a' := ?_) #[true, true, true, true, true, false, false, false, false] rfl rfl (any_of HT_.out (by kernel_rfl)) (fun _ _ _ h => h) (Or.inl ⟨by rfl, ?_⟩) ?_ ?_
    rotate_left
    ·intro w'
     go_simp; with_reducible rfl
    rotate_left
    ·simp only [Act.put, List.setIfInBounds_toArray, List.set_cons_zero, List.set_cons_succ, i64_w, i32_w]
     rfl
    refine pure_ (i := 5) (N := some 10) (v := ?_) (a' := ?_) #[true, true, true, true, true, true, false, false, false] rfl rfl (any_of HT_.out (by kernel_rfl)) (fun _ _ _ h => h) (Or.inl ⟨by rfl, ?_⟩) ?_ ?_
    rotate_left
    ·intro w'
     go_simp; with_reducible rfl
    rotate_left
    ·simp only [Act.put, List.setIfInBounds_toArray, List.set_cons_zero, List.set_cons_succ, i64_w, i32_w]
     rfl
    refine one_ (i := 6) (N := some 3) #[true, true, true, true, true, true, true, false, false] rfl rfl (one_of HT_.out (by kernel_rfl)) (by decide) (fun K hK => ?_)
    refine box_step ?hg (N := 3) ?hd (cs := #[.int .u64 0, .int .u64 0]) (t := 26) ?hr ?_; (case hd => rfl); (case hg => rfl); (case hr => first | (go_simp; done) | (go_simp; rfl))
    intro gb214 hg w9 hbox hb
    have n0_ := Aside0.mk (blk_below (g := gb207) (o := .cells #[.int .u64 a0_0, .int .u64 a0_1] 26 (0, 0)) kA hb); have n1_ := Aside0.mk (blk_below (g := gb208) (o := .cells #[.int .u64 0, .int .u64 0] 26 (0, 0)) kA hb); have n2_ := Aside0.mk (below_step bA hb); have n3_ := Aside0.mk (hbox); have n4_ := Aside0.mk ((by rw [hg]; exact (below_size bA) : w.heap.size ≤ gb214)); have n5_ := Aside0.mk ((by rw [hg]; exact (below_size bA) : w.heap.size ≤ gb214)); have n6_ := Aside0.mk ((by rw [hg]; exact Nat.ne_of_lt (blk_lt (g := gb207) (o := .cells #[.int .u64 a0_0, .int .u64 a0_1] 26 (0, 0)) kA) : gb207 ≠ gb214)); have n7_ := Aside0.mk ((by rw [hg]; exact Nat.ne_of_gt (blk_lt (g := gb207) (o := .cells #[.int .u64 a0_0, .int .u64 a0_1] 26 (0, 0)) kA) : gb214 ≠ gb207)); have n8_ := Aside0.mk ((by rw [hg]; exact Nat.ne_of_lt (blk_lt (g := gb208) (o := .cells #[.int .u64 0, .int .u64 0] 26 (0, 0)) kA) : gb208 ≠ gb214)); have n9_ := Aside0.mk ((by rw [hg]; exact Nat.ne_of_gt (blk_lt (g := gb208) (o := .cells #[.int .u64 0, .int .u64 0] 26 (0, 0)) kA) : gb214 ≠ gb208)); clear BK207 BK208 HB; have BK207 := n0_; have BK208 := n1_; have HB := n2_; have BK214 := n3_; have GW214 := n4_; have GE214 := n5_; have NB207_214 := n6_; have NB214_207 := n7_; have NB208_214 := n8_; have NB214_208 := n9_; clear n0_ n1_ n2_ n3_ n4_ n5_ n6_ n7_ n8_ n9_ hb hbox hg
    refine hK.out _ _ ⟨(blk_cell BK207.out 0).trans rfl, (blk_cell BK207.out 1).trans rfl⟩ (fun hHeld => ?_)
    clear hK K
    refine norm_ (a' := ?_) ?_ ?_
    rotate_left
    ·show Act.put _ (some 3) _ = _
     simp only [Act.put, List.setIfInBounds_toArray, List.set_cons_zero, List.set_cons_succ, i64_w, i32_w]
     rfl
    exact norm_ (by simp only [putAll, Act.put, List.setIfInBounds_toArray, List.set_cons_zero, List.set_cons_succ]) (hCont (gb214) _ ⟨hHeld, kA, kA, kA, GW214.out, GE214.out, NB207_214.out, NB214_207.out, NB208_214.out, NB214_208.out, bA⟩)
   ·skip
    refine box_step ?hg (N := 3) ?hd (cs := #[.int .u64 0, .int .u64 0]) (t := 26) ?hr ?_; (case hd => rfl); (case hg => rfl); (case hr => first | (go_simp; done) | (go_simp; rfl))
    intro gb214 hg w8 hbox hb
    have n0_ := Aside0.mk (blk_below (g := gb207) (o := .cells #[.int .u64 a0_0, .int .u64 a0_1] 26 (0, 0)) kA hb); have n1_ := Aside0.mk (blk_below (g := gb208) (o := .cells #[.int .u64 0, .int .u64 0] 26 (0, 0)) kA hb); have n2_ := Aside0.mk (below_step bA hb); have n3_ := Aside0.mk (hbox); have n4_ := Aside0.mk ((by rw [hg]; exact (below_size bA) : w.heap.size ≤ gb214)); have n5_ := Aside0.mk ((by rw [hg]; exact (below_size bA) : w.heap.size ≤ gb214)); have n6_ := Aside0.mk ((by rw [hg]; exact Nat.ne_of_lt (blk_lt (g := gb207) (o := .cells #[.int .u64 a0_0, .int .u64 a0_1] 26 (0, 0)) kA) : gb207 ≠ gb214)); have n7_ := Aside0.mk ((by rw [hg]; exact Nat.ne_of_gt (blk_lt (g := gb207) (o := .cells #[.int .u64 a0_0, .int .u64 a0_1] 26 (0, 0)) kA) : gb214 ≠ gb207)); have n8_ := Aside0.mk ((by rw [hg]; exact Nat.ne_of_lt (blk_lt (g := gb208) (o := .cells #[.int .u64 0, .int .u64 0] 26 (0, 0)) kA) : gb208 ≠ gb214)); have n9_ := Aside0.mk ((by rw [hg]; exact Nat.ne_of_gt (blk_lt (g := gb208) (o := .cells #[.int .u64 0, .int .u64 0] 26 (0, 0)) kA) : gb214 ≠ gb208)); clear BK207 BK208 HB; have BK207 := n0_; have BK208 := n1_; have HB := n2_; have BK214 := n3_; have GW214 := n4_; have GE214 := n5_; have NB207_214 := n6_; have NB214_207 := n7_; have NB208_214 := n8_; have NB214_208 := n9_; clear n0_ n1_ n2_ n3_ n4_ n5_ n6_ n7_ n8_ n9_ hb hbox hg
    refine hK.out _ _ ⟨(blk_cell BK207.out 0).trans rfl, (blk_cell BK207.out 1).trans rfl⟩ (fun hHeld => ?_)
    clear hK K
    refine norm_ (a' := ?_) ?_ ?_
    rotate_left
    ·show Act.put _ (some 3) _ = _
     simp only [Act.put, List.setIfInBounds_toArray, List.set_cons_zero, List.set_cons_succ, i64_w, i32_w]
     rfl
    refine one_ (i := 2) (N := some 8) #[true, true, true, false, false, false, true, false, false] rfl rfl (one_of HT_.out (by kernel_rfl)) (by decide) (fun K hK => ?_)
    refine goes_ Tryd.func47 (by kernel_rfl) rfl #[.agg #[.int .u64 a0_0, .int .u64 a0_1], .agg #[.int .u64 t209, .int .u64 t210]] (by rfl) rfl rfl aA ?_
    with_reducible refine (backfillref01_Add.calls a0_0 a0_1 t209 t210 t211 t212 t213 _ A3.out).mono ?_
    rintro e w9 ⟨rfl, hb⟩
    refine ⟨_, rfl, ?_⟩; have n0_ := Aside0.mk (blk_below (g := gb207) (o := .cells #[.int .u64 a0_0, .int .u64 a0_1] 26 (0, 0)) kA hb); have n1_ := Aside0.mk (blk_below (g := gb208) (o := .cells #[.int .u64 0, .int .u64 0] 26 (0, 0)) kA hb); have n2_ := Aside0.mk (blk_below (g := gb214) (o := .cells #[.int .u64 0, .int .u64 0] 26 (0, 0)) kA hb); have n3_ := Aside0.mk (below_step bA hb); clear BK207 BK208 BK214 HB; have BK207 := n0_; have BK208 := n1_; have BK214 := n2_; have HB := n3_; clear n0_ n1_ n2_ n3_; (try clear hb)
    refine hK.out _ _ ⟨(blk_cell BK207.out 0).trans rfl, (blk_cell BK207.out 1).trans rfl⟩ (fun hHeld => ?_)
    clear hK K
    refine norm_ (a' := ?_) ?_ ?_
    rotate_left
    ·show Act.put _ (some 8) _ = _
     simp only [Act.put, List.setIfInBounds_toArray, List.set_cons_zero, List.set_cons_succ, i64_w, i32_w]
     rfl
    refine pure_ (i := 3) (N := some 5) (v := ?_) (a' := ?_) #[true, true, true, true, false, false, true, false, false] rfl rfl (any_of HT_.out (by kernel_rfl)) (fun _ _ _ h => h) (Or.inl ⟨by rfl, ?_⟩) ?_ ?_
    rotate_left
    ·intro w'
     go_simp; with_reducible rfl
    rotate_left
    ·simp only [Act.put, List.setIfInBounds_toArray, List.set_cons_zero, List.set_cons_succ, i64_w, i32_w]
     rfl
    refine pure_ (i := 4) (N := some 9) (v := ?_) (a' := ?_) #[true, true, true, true, true, false, true, false, false] rfl rfl (any_of HT_.out (by kernel_rfl)) (fun _ _ _ h => h) (Or.inl ⟨by rfl, ?_⟩) ?_ ?_
    rotate_left
    ·intro w'
     go_simp; with_reducible rfl
    rotate_left
    ·simp only [Act.put, List.setIfInBounds_toArray, List.set_cons_zero, List.set_cons_succ, i64_w, i32_w]
     rfl
    refine pure_ (i := 5) (N := some 10) (v := ?_) (a' := ?_) #[true, true, true, true, true, true, true, false, false] rfl rfl (any_of HT_.out (by kernel_rfl)) (fun _ _ _ h => h) (Or.inl ⟨by rfl, ?_⟩) ?_ ?_
    rotate_left
    ·intro w'
     go_simp; with_reducible rfl
    rotate_left
    ·simp only [Act.put, List.setIfInBounds_toArray, List.set_cons_zero, List.set_cons_succ, i64_w, i32_w]
     rfl
    exact norm_ (by simp only [putAll, Act.put, List.setIfInBounds_toArray, List.set_cons_zero, List.set_cons_succ]) (hCont (gb214) _ ⟨hHeld, kA, kA, kA, GW214.out, GE214.out, NB207_214.out, NB214_207.out, NB208_214.out, NB214_208.out, bA⟩)
  ·skip
   refine box_step ?hg (N := 3) ?hd (cs := #[.int .u64 0, .int .u64 0]) (t := 26) ?hr ?_; (case hd => rfl); (case hg => rfl); (case hr => first | (go_simp; done) | (go_simp; rfl))
   intro gb214 hg w7 hbox hb
   have n0_ := Aside0.mk (blk_below (g := gb207) (o := .cells #[.int .u64 a0_0, .int .u64 a0_1] 26 (0, 0)) kA hb); have n1_ := Aside0.mk (blk_below (g := gb208) (o := .cells #[.int .u64 0, .int .u64 0] 26 (0, 0)) kA hb); have n2_ := Aside0.mk (below_step bA hb); have n3_ := Aside0.mk (hbox); have n4_ := Aside0.mk ((by rw [hg]; exact (below_size bA) : w.heap.size ≤ gb214)); have n5_ := Aside0.mk ((by rw [hg]; exact (below_size bA) : w.heap.size ≤ gb214)); have n6_ := Aside0.mk ((by rw [hg]; exact Nat.ne_of_lt (blk_lt (g := gb207) (o := .cells #[.int .u64 a0_0, .int .u64 a0_1] 26 (0, 0)) kA) : gb207 ≠ gb214)); have n7_ := Aside0.mk ((by rw [hg]; exact Nat.ne_of_gt (blk_lt (g := gb207) (o := .cells #[.int .u64 a0_0, .int .u64 a0_1] 26 (0, 0)) kA) : gb214 ≠ gb207)); have n8_ := Aside0.mk ((by rw [hg]; exact Nat.ne_of_lt (blk_lt (g := gb208) (o := .cells #[.int .u64 0, .int .u64 0] 26 (0, 0)) kA) : gb208 ≠ gb214)); have n9_ := Aside0.mk ((by rw [hg]; exact Nat.ne_of_gt (blk_lt (g := gb208) (o := .cells #[.int .u64 0, .int .u64 0] 26 (0, 0)) kA) : gb214 ≠ gb208)); clear BK207 BK208 HB; have BK207 := n0_; have BK208 := n1_; have HB := n2_; have BK214 := n3_; have GW214 := n4_; have GE214 := n5_; have NB207_214 := n6_; have NB214_207 := n7_; have NB208_214 := n8_; have NB214_208 := n9_; clear n0_ n1_ n2_ n3_ n4_ n5_ n6_ n7_ n8_ n9_ hb hbox hg
   refine hK.out _ _ ⟨(blk_cell BK207.out 0).trans rfl, (blk_cell BK207.out 1).trans rfl⟩ (fun hHeld => ?_)
   clear hK K
   refine norm_ (a' := ?_) ?_ ?_
   rotate_left
   ·show Act.put _ (some 3) _ = _
    simp only [Act.put, List.setIfInBounds_toArray, List.set_cons_zero, List.set_cons_succ, i64_w, i32_w]
    rfl
   refine one_ (i := 1) (N := some 7) #[true, true, false, false, false, false, true, false, false] rfl rfl (one_of HT_.out (by kernel_rfl)) (by decide) (fun K hK => ?_)
   refine goes_ Tryd.func48 (by kernel_rfl) rfl #[.int .u64 1] (by rfl) rfl rfl aA ?_
   with_reducible refine (backfillref01_Of.calls 1 t209 t210 _ A2.out).mono ?_
   rintro e w8 ⟨rfl, hb⟩
   refine ⟨_, rfl, ?_⟩; have n0_ := Aside0.mk (blk_below (g := gb207) (o := .cells #[.int .u64 a0_0, .int .u64 a0_1] 26 (0, 0)) kA hb); have n1_ := Aside0.mk (blk_below (g := gb208) (o := .cells #[.int .u64 0, .int .u64 0] 26 (0, 0)) kA hb); have n2_ := Aside0.mk (blk_below (g := gb214) (o := .cells #[.int .u64 0, .int .u64 0] 26 (0, 0)) kA hb); have n3_ := Aside0.mk (below_step bA hb); clear BK207 BK208 BK214 HB; have BK207 := n0_; have BK208 := n1_; have BK214 := n2_; have HB := n3_; clear n0_ n1_ n2_ n3_; (try clear hb)
   refine hK.out _ _ ⟨(blk_cell BK207.out 0).trans rfl, (blk_cell BK207.out 1).trans rfl⟩ (fun hHeld => ?_)
   clear hK K
   refine norm_ (a' := ?_) ?_ ?_
   rotate_left
   ·show Act.put _ (some 7) _ = _
    simp only [Act.put, List.setIfInBounds_toArray, List.set_cons_zero, List.set_cons_succ, i64_w, i32_w]
    rfl
   refine one_ (i := 2) (N := some 8) #[true, true, true, false, false, false, true, false, false] rfl rfl (one_of HT_.out (by kernel_rfl)) (by decide) (fun K hK => ?_)
   refine goes_ Tryd.func47 (by kernel_rfl) rfl #[.agg #[.int .u64 a0_0, .int .u64 a0_1], .agg #[.int .u64 t209, .int .u64 t210]] (by rfl) rfl rfl aA ?_
   with_reducible refine (backfillref01_Add.calls a0_0 a0_1 t209 t210 t211 t212 t213 _ A3.out).mono ?_
   rintro e w9 ⟨rfl, hb⟩
   refine ⟨_, rfl, ?_⟩; have n0_ := Aside0.mk (blk_below (g := gb207) (o := .cells #[.int .u64 a0_0, .int .u64 a0_1] 26 (0, 0)) kA hb); have n1_ := Aside0.mk (blk_below (g := gb208) (o := .cells #[.int .u64 0, .int .u64 0] 26 (0, 0)) kA hb); have n2_ := Aside0.mk (blk_below (g := gb214) (o := .cells #[.int .u64 0, .int .u64 0] 26 (0, 0)) kA hb); have n3_ := Aside0.mk (below_step bA hb); clear BK207 BK208 BK214 HB; have BK207 := n0_; have BK208 := n1_; have BK214 := n2_; have HB := n3_; clear n0_ n1_ n2_ n3_; (try clear hb)
   refine hK.out _ _ ⟨(blk_cell BK207.out 0).trans rfl, (blk_cell BK207.out 1).trans rfl⟩ (fun hHeld => ?_)
   clear hK K
   refine norm_ (a' := ?_) ?_ ?_
   rotate_left
   ·show Act.put _ (some 8) _ = _
    simp only [Act.put, List.setIfInBounds_toArray, List.set_cons_zero, List.set_cons_succ, i64_w, i32_w]
    rfl
   refine pure_ (i := 3) (N := some 5) (v := ?_) (a' := ?_) #[true, true, true, true, false, false, true, false, false] rfl rfl (any_of HT_.out (by kernel_rfl)) (fun _ _ _ h => h) (Or.inl ⟨by rfl, ?_⟩) ?_ ?_
   rotate_left
   ·intro w'
    go_simp; with_reducible rfl
   rotate_left
   ·simp only [Act.put, List.setIfInBounds_toArray, List.set_cons_zero, List.set_cons_succ, i64_w, i32_w]
    rfl
   refine pure_ (i := 4) (N := some 9) (v := ?_) (a' := ?_) #[true, true, true, true, true, false, true, false, false] rfl rfl (any_of HT_.out (by kernel_rfl)) (fun _ _ _ h => h) (Or.inl ⟨by rfl, ?_⟩) ?_ ?_
   rotate_left
   ·intro w'
    go_simp; with_reducible rfl
   rotate_left
   ·simp only [Act.put, List.setIfInBounds_toArray, List.set_cons_zero, List.set_cons_succ, i64_w, i32_w]
    rfl
   refine pure_ (i := 5) (N := some 10) (v := ?_) (a' := ?_) #[true, true, true, true, true, true, true, false, false] rfl rfl (any_of HT_.out (by kernel_rfl)) (fun _ _ _ h => h) (Or.inl ⟨by rfl, ?_⟩) ?_ ?_
   rotate_left
   ·intro w'
    go_simp; with_reducible rfl
   rotate_left
   ·simp only [Act.put, List.setIfInBounds_toArray, List.set_cons_zero, List.set_cons_succ, i64_w, i32_w]
    rfl
   exact norm_ (by simp only [putAll, Act.put, List.setIfInBounds_toArray, List.set_cons_zero, List.set_cons_succ]) (hCont (gb214) _ ⟨hHeld, kA, kA, kA, GW214.out, GE214.out, NB207_214.out, NB214_207.out, NB208_214.out, NB214_208.out, bA⟩)
 rintro gb214 w10 ⟨hS_, h0_, h1_, h2_, h3_, h4_, h5_, h6_, h7_, h8_, h9_⟩
 have n0_ : Aside0 (w10.heap[gb207]? = some (.cells #[.int .u64 a0_0, .int .u64 a0_1] 26 (0, 0))) := ⟨h0_⟩
 have n1_ : Aside0 (w10.heap[gb208]? = some (.cells #[.int .u64 0, .int .u64 0] 26 (0, 0))) := ⟨h1_⟩
 have n2_ : Aside0 (w10.heap[gb214]? = some (.cells #[.int .u64 0, .int .u64 0] 26 (0, 0))) := ⟨h2_⟩
 have n3_ : Aside0 (w.heap.size ≤ gb214) := ⟨h3_⟩
 have n4_ : Aside0 (w.heap.size ≤ gb214) := ⟨h4_⟩
 have n5_ : Aside0 (gb207 ≠ gb214) := ⟨h5_⟩
 have n6_ : Aside0 (gb214 ≠ gb207) := ⟨h6_⟩
 have n7_ : Aside0 (gb208 ≠ gb214) := ⟨h7_⟩
 have n8_ : Aside0 (gb214 ≠ gb208) := ⟨h8_⟩
 have n9_ : Aside0 (Below w.heap.size w w10) := ⟨h9_⟩
 clear BK207 BK208 HB h0_ h1_ h2_ h3_ h4_ h5_ h6_ h7_ h8_ h9_; have BK207 := n0_; have BK208 := n1_; have BK214 := n2_; have GW214 := n3_; have GE214 := n4_; have NB207_214 := n5_; have NB214_207 := n6_; have NB208_214 := n7_; have NB214_208 := n8_; have HB := n9_; clear n0_ n1_ n2_ n3_ n4_ n5_ n6_ n7_ n8_ n9_
 have hHeld : w10.cell? ⟨gb207, 0, none⟩ = some (.int .u64 a0_0) ∧ w10.cell? ⟨gb207, 1, none⟩ = some (.int .u64 a0_1) := hS_
 refine norm_ (a' := ?_) ?_ ?_
 rotate_left
 ·simp only [putAll, Act.put, List.setIfInBounds_toArray, List.set_cons_zero, List.set_cons_succ]
  rfl
 refine one_ (i := 7) (N := none) #[true, true, true, true, true, true, true, true, false] rfl rfl (one_of HT_.out (by kernel_rfl)) (by decide) (fun K hK => ?_)
 have hs11 : w10.cell? ⟨gb214, 0, none⟩ = some (.int .u64 0) := (blk_cell BK214.out 0).trans rfl
 have hfs11 := blk_frozen BK214.out 0
 have hns11_0 := NB207_214.out
 have hns11_1 := NB208_214.out
 have hms11_0 := NB214_207.out
 have hms11_1 := NB214_208.out
 have hs12 : w10.cell? ⟨gb214, 1, none⟩ = some (.int .u64 0) := (blk_cell BK214.out 1).trans rfl
 have hfs12 := blk_frozen BK214.out 1
 have hns12_0 := NB207_214.out
 have hns12_1 := NB208_214.out
 have hms12_0 := NB214_207.out
 have hms12_1 := NB214_208.out
 refine skip_ (w1 := ?_) (by rfl) rfl ?_ ?_
 rotate_left
 ·go_simp
  rfl
 refine hK.out _ _ ⟨((cell_far (p := ⟨gb214, _, none⟩) NB207_214.out _).trans (((cell_far (p := ⟨gb214, _, none⟩) NB207_214.out _).trans (hHeld.1)))), ((cell_far (p := ⟨gb214, _, none⟩) NB207_214.out _).trans (((cell_far (p := ⟨gb214, _, none⟩) NB207_214.out _).trans (hHeld.2))))⟩ (fun hHeld => ?_)
 clear hK K
 refine pure_ (i := 8) (N := some 4) (v := ?_) (a' := ?_) #[true, true, true, true, true, true, true, true, true] rfl rfl (any_of HT_.out (by kernel_rfl)) (fun _ _ _ h => h) (Or.inl ⟨by rfl, ?_⟩) ?_ ?_
 rotate_left
 ·intro w'
  go_simp; with_reducible rfl
 rotate_left
 ·simp only [Act.put, List.setIfInBounds_toArray, List.set_cons_zero, List.set_cons_succ, i64_w, i32_w]
  rfl
 refine done_ (done_of HT_.out (by kernel_rfl)) ?_
 have hnb13 := NB214_207.out
 have hnc13 := NB207_214.out
 have hnb14 := NB214_208.out
 have hnc14 := NB208_214.out
 have hcz15_0 : w10.cell? ⟨gb214, 0, none⟩ = some (.int .u64 0) := (blk_cell BK214.out 0).trans rfl
 have hcz15_1 : w10.cell? ⟨gb214, 1, none⟩ = some (.int .u64 0) := (blk_cell BK214.out 1).trans rfl
 have hfz15_0 := blk_frozen BK214.out 0
 have hfz15_1 := blk_frozen BK214.out 1
 have hnb16 := NB208_207.out
 have hnc16 := NB207_208.out
 have hcz17_0 : w10.cell? ⟨gb208, 0, none⟩ = some (.int .u64 0) := (blk_cell BK208.out 0).trans rfl
 have hcz17_1 : w10.cell? ⟨gb208, 1, none⟩ = some (.int .u64 0) := (blk_cell BK208.out 1).trans rfl
 have hfz17_0 := blk_frozen BK208.out 0
 have hfz17_1 := blk_frozen BK208.out 1
 try go_wp2
 refine bodyPost_ret (results_cell_row rfl _ _ gb208 26 #[.int .u64 t211, .int .u64 t212] (0, 0) _ rfl (by (with_reducible repeat (first | refine blk_drewN ?_ _ | refine blk_drew ?_ | refine blk_alloc ?_ _)); refine blk_put (cs := #[.int .u64 t211, .int .u64 0]) ?_ 1 _ rfl; (with_reducible repeat (first | refine blk_drewN ?_ _ | refine blk_drew ?_ | refine blk_alloc ?_ _)); refine blk_put (cs := #[.int .u64 0, .int .u64 0]) ?_ 0 _ rfl; (with_reducible repeat (first | refine blk_drewN ?_ _ | refine blk_drew ?_ | refine blk_alloc ?_ _)); refine blk_far ?_ NB208_214.out _; (with_reducible repeat (first | refine blk_drewN ?_ _ | refine blk_drew ?_ | refine blk_alloc ?_ _)); refine blk_far ?_ NB208_214.out _; (with_reducible repeat (first | refine blk_drewN ?_ _ | refine blk_drew ?_ | refine blk_alloc ?_ _)); exact BK208.out) Tryd.underlying26 rfl (by kernel_rfl)) rfl ?_
 exact ⟨by first | rfl | (simp [errW_none, errW_some] <;> rfl) | (simp [*, errW_none, errW_some] <;> rfl), bA⟩

/-! ### backfillref04_quotient: function 51 -/
def backfillref04_quotient.j0 : Nat → Bool → Int → Int → Option (Int × Bool)
 | 0, _, _, _ => none
 | k + 1, x24, x221000, x221001 => if x24 = true then ((backfillref04_up.f x221000 x221001).bind fun bt221 => ((backfillref04_small.f bt221.1 bt221.2).bind fun bt223 => (some (bt223.1, bt223.2)))) else ((backfillref04_small.f x221000 x221001).bind fun bt225 => (some (bt225.1, bt225.2)))
def backfillref04_quotient.f (k : Nat) (a0_0 : Int) (a0_1 : Int) (a1 : Int) (a2 : Bool) : Option (Int × Bool) := (backfillref01_Div.f k a0_0 a0_1 a1).bind fun bt216 => (if bt216.2.2.2 = true then (if a2 = true then (backfillref04_quotient.j0 k (decide (bt216.2.2.1 > 0)) bt216.1 bt216.2.1) else (backfillref04_quotient.j0 k false bt216.1 bt216.2.1)) else (some (18446744073709551615, false)))
theorem backfillref04_quotient.mono_l : ∀ k, (∀ y0 y1 y2, LeO (backfillref04_quotient.j0 k y0 y1 y2) (backfillref04_quotient.j0 (k + 1) y0 y1 y2))
 | 0 => fun _ _ _ r h => by simp [backfillref04_quotient.j0] at h
 | k + 1 => by
  have ih0 := backfillref04_quotient.mono_l k
  ·intro y0 y1 y2
   unfold backfillref04_quotient.j0
   repeat' first
   | (with_reducible exact ih0 _ _ _)
   | (with_reducible exact backfillref01_Div.mono _ _ _ _)
   | (with_reducible exact LeO.refl _)
   | (with_reducible exact LeO.none _)
   | (with_reducible refine LeO.ite ?_ ?_)
   | (with_reducible refine LeO.bind ?_ (fun _ => ?_))
   | exact ih0 _ _ _
   | exact backfillref01_Div.mono _ _ _ _
   | exact LeO.none _
   | refine LeO.ite ?_ ?_
   | refine LeO.bind ?_ (fun _ => ?_)
theorem backfillref04_quotient.mono : ∀ a0 a1 a2 a3 k, LeO (backfillref04_quotient.f k a0 a1 a2 a3) (backfillref04_quotient.f (k + 1) a0 a1 a2 a3) := by
 intro a0 a1 a2 a3 k
 have ih0 := backfillref04_quotient.mono_l k
 unfold backfillref04_quotient.f
 repeat' first
   | (with_reducible exact ih0 _ _ _)
   | (with_reducible exact backfillref01_Div.mono _ _ _ _)
   | (with_reducible exact LeO.refl _)
   | (with_reducible exact LeO.none _)
   | (with_reducible refine LeO.ite ?_ ?_)
   | (with_reducible refine LeO.bind ?_ (fun _ => ?_))
   | exact ih0 _ _ _
   | exact backfillref01_Div.mono _ _ _ _
   | exact LeO.none _
   | refine LeO.ite ?_ ?_
   | refine LeO.bind ?_ (fun _ => ?_)
set_option maxHeartbeats 8000000 in
set_option maxRecDepth 100000 in
theorem backfillref04_quotient.calls (k : Nat) (a0_0 : Int) (a0_1 : Int) (a1 : Int) (a2 : Bool) (r1 : Int) (r2 : Bool) (w : World) (h : backfillref04_quotient.f k a0_0 a0_1 a1 a2 = some (r1, r2)) :
  Calls Tryd.prog 51 #[.agg #[.int .u64 a0_0, .int .u64 a0_1], .int .u64 a1, .bool a2] w fun e w' => e = .returned (.tuple #[.int .u64 r1, .bool r2]) ∧ Below w.heap.size w w' := by
 have hu26 := Tryd.underlying26
 have HB := Aside0.mk (Below.refl w.heap.size w)
 have H : ((backfillref01_Div.f k a0_0 a0_1 a1).bind fun bt216 => (if bt216.2.2.2 = true then (if a2 = true then (backfillref04_quotient.j0 k (decide (bt216.2.2.1 > 0)) bt216.1 bt216.2.1) else (backfillref04_quotient.j0 k false bt216.1 bt216.2.1)) else (some (18446744073709551615, false)))) = some (r1, r2) := h
 clear h; replace H := Option.bind_eq_some_iff.mp H; obtain ⟨⟨t216, t217, t218, t219⟩, A40, H⟩ := H; replace H : (if t219 = true then (if a2 = true then (backfillref04_quotient.j0 k (decide (t218 > 0)) t216 t217) else (backfillref04_quotient.j0 k false t216 t217)) else (some (18446744073709551615, false))) = some (r1, r2) := H; have A4 := Aside0.mk A40; clear A40
 by_cases c5 : t219 = true
 ·subst c5
  have H1 : (if a2 = true then (backfillref04_quotient.j0 k (decide (t218 > 0)) t216 t217) else (backfillref04_quotient.j0 k false t216 t217)) = some (r1, r2) := by rw [if_pos rfl] at H; exact H
  clear H
  have H := H1
  clear H1
  have HC6 := Aside0.mk H
  clear H
  go_enter Tryd.func51, Tryd.ntmps51
  go_upto_region 4 with (first | ((with_reducible refine gate_dst (N := 3) rfl ?_); refine bxA 3 #[.int .u64 a0_0, .int .u64 a0_1] 26 ?_; intro gb215 hg w7 hbox hb; have n0_ := Aside0.mk (below_step bA hb); have n1_ := Aside0.mk (hbox); have n2_ := Aside0.mk ((by rw [hg]; exact (below_size bA) : w.heap.size ≤ gb215)); have n3_ := Aside0.mk ((by rw [hg]; exact (below_size bA) : w.heap.size ≤ gb215)); clear HB; have HB := n0_; have BK215 := n1_; have GW215 := n2_; have GE215 := n3_; clear n0_ n1_ n2_ n3_ hb hbox hg; have hcz8_0 : w7.cell? ⟨gb215, 0, none⟩ = some (.int .u64 a0_0) := (blk_cell BK215.out 0).trans rfl; have hcz8_1 : w7.cell? ⟨gb215, 1, none⟩ = some (.int .u64 a0_1) := (blk_cell BK215.out 1).trans rfl; have hfz8_0 := blk_frozen BK215.out 0; have hfz8_1 := blk_frozen BK215.out 1) | ((with_reducible refine gate_callee (f := 56) rfl ?_); refine goesL_ (some 14) rfl rfl Tryd.func56 (by kernel_rfl) rfl #[.agg #[.int .u64 a0_0, .int .u64 a0_1], .int .u64 a1] rfl aA ?_; (with_reducible refine (backfillref01_Div.calls k a0_0 a0_1 a1 t216 t217 t218 true _ A4.out).mono ?_); rintro e w9 ⟨rfl, hb⟩; refine ⟨_, rfl, ?_⟩; have n0_ := Aside0.mk (blk_below (g := gb215) (o := .cells #[.int .u64 a0_0, .int .u64 a0_1] 26 (0, 0)) kA hb); have n1_ := Aside0.mk (below_step bA hb); clear BK215 HB; have BK215 := n0_; have HB := n1_; clear n0_ n1_; (try clear hb)) | ((with_reducible refine gate_dst (N := 8) rfl ?_); refine bxA 8 #[.int .u64 0, .int .u64 0] 26 ?_; intro gb220 hg w10 hbox hb; have n0_ := Aside0.mk (blk_below (g := gb215) (o := .cells #[.int .u64 a0_0, .int .u64 a0_1] 26 (0, 0)) kA hb); have n1_ := Aside0.mk (below_step bA hb); have n2_ := Aside0.mk (hbox); have n3_ := Aside0.mk ((by rw [hg]; exact (below_size bA) : w.heap.size ≤ gb220)); have n4_ := Aside0.mk ((by rw [hg]; exact (below_size bA) : w.heap.size ≤ gb220)); have n5_ := Aside0.mk ((by rw [hg]; exact Nat.ne_of_lt (blk_lt (g := gb215) (o := .cells #[.int .u64 a0_0, .int .u64 a0_1] 26 (0, 0)) kA) : gb215 ≠ gb220)); have n6_ := Aside0.mk ((by rw [hg]; exact Nat.ne_of_gt (blk_lt (g := gb215) (o := .cells #[.int .u64 a0_0, .int .u64 a0_1] 26 (0, 0)) kA) : gb220 ≠ gb215)); clear BK215 HB; have BK215 := n0_; have HB := n1_; have BK220 := n2_; have GW220 := n3_; have GE220 := n4_; have NB215_220 := n5_; have NB220_215 := n6_; clear n0_ n1_ n2_ n3_ n4_ n5_ n6_ hb hbox hg; have hnb11 := NB220_215.out; have hnc11 := NB215_220.out; have hcz12_0 : w10.cell? ⟨gb220, 0, none⟩ = some (.int .u64 0) := (blk_cell BK220.out 0).trans rfl; have hcz12_1 : w10.cell? ⟨gb220, 1, none⟩ = some (.int .u64 0) := (blk_cell BK220.out 1).trans rfl; have hfz12_0 := blk_frozen BK220.out 0; have hfz12_1 := blk_frozen BK220.out 1))
  (try simp only [Act.put, List.setIfInBounds_toArray, List.set_cons_zero, List.set_cons_succ])
  go_cut [24] (fun v24 wc => ∃ (kq : Nat) (x24_5 : Bool), v24 = .bool x24_5 ∧ Aside0 (backfillref04_quotient.j0 kq x24_5 t216 t217 = some (r1, r2)) ∧ Aside0 (kq ≤ k) ∧ Aside0 (wc.heap[gb215]? = some (.cells #[.int .u64 a0_0, .int .u64 a0_1] 26 (0, 0))) ∧ Aside0 (wc.heap[gb220]? = some (.cells #[.int .u64 t216, .int .u64 t217] 26 (0, 0))) ∧ Aside0 (Below w.heap.size w wc))
  case first =>
   have H := HC6.out
   clear HC6
   by_cases c13 : a2 = true
   ·subst c13
    have H1 : (backfillref04_quotient.j0 k (decide (t218 > 0)) t216 t217) = some (r1, r2) := by rw [if_pos rfl] at H; exact H
    clear H
    have H := H1
    clear H1
    have H' := Aside0.mk H
    clear H
    go_wp2
    go_meet
    case rel => exact ⟨_, (decide (t218 > 0)), (by first | rfl | (simp; done) | (simp [*]; done)), H', ⟨by first | omega | exact Nat.le_refl _⟩, ⟨by (with_reducible repeat (first | refine blk_drewN ?_ _ | refine blk_drew ?_ | refine blk_alloc ?_ _)); refine blk_far ?_ NB215_220.out _; (with_reducible repeat (first | refine blk_drewN ?_ _ | refine blk_drew ?_ | refine blk_alloc ?_ _)); refine blk_far ?_ NB215_220.out _; (with_reducible repeat (first | refine blk_drewN ?_ _ | refine blk_drew ?_ | refine blk_alloc ?_ _)); exact BK215.out⟩, ⟨by (with_reducible repeat (first | refine blk_drewN ?_ _ | refine blk_drew ?_ | refine blk_alloc ?_ _)); refine blk_put (cs := #[.int .u64 t216, .int .u64 0]) ?_ 1 _ rfl; (with_reducible repeat (first | refine blk_drewN ?_ _ | refine blk_drew ?_ | refine blk_alloc ?_ _)); refine blk_put (cs := #[.int .u64 0, .int .u64 0]) ?_ 0 _ rfl; (with_reducible repeat (first | refine blk_drewN ?_ _ | refine blk_drew ?_ | refine blk_alloc ?_ _)); exact BK220.out⟩, ⟨bA⟩⟩
   ·replace c13 := Bool.eq_false_iff.mpr c13
    subst c13
    have H1 : (backfillref04_quotient.j0 k false t216 t217) = some (r1, r2) := by rw [if_neg (show ¬ (false = true) by decide)] at H; exact H
    clear H
    have H := H1
    clear H1
    have H' := Aside0.mk H
    clear H
    go_wp2
    go_meet
    case rel => exact ⟨_, (false), (by first | rfl | (simp; done) | (simp [*]; done)), H', ⟨by first | omega | exact Nat.le_refl _⟩, ⟨by (with_reducible repeat (first | refine blk_drewN ?_ _ | refine blk_drew ?_ | refine blk_alloc ?_ _)); refine blk_far ?_ NB215_220.out _; (with_reducible repeat (first | refine blk_drewN ?_ _ | refine blk_drew ?_ | refine blk_alloc ?_ _)); refine blk_far ?_ NB215_220.out _; (with_reducible repeat (first | refine blk_drewN ?_ _ | refine blk_drew ?_ | refine blk_alloc ?_ _)); exact BK215.out⟩, ⟨by (with_reducible repeat (first | refine blk_drewN ?_ _ | refine blk_drew ?_ | refine blk_alloc ?_ _)); refine blk_put (cs := #[.int .u64 t216, .int .u64 0]) ?_ 1 _ rfl; (with_reducible repeat (first | refine blk_drewN ?_ _ | refine blk_drew ?_ | refine blk_alloc ?_ _)); refine blk_put (cs := #[.int .u64 0, .int .u64 0]) ?_ 0 _ rfl; (with_reducible repeat (first | refine blk_drewN ?_ _ | refine blk_drew ?_ | refine blk_alloc ?_ _)); exact BK220.out⟩, ⟨bA⟩⟩
  case rest =>
   clear HC6
   try clear c1
   try clear p2
   try clear c5
   try clear c11
   try clear c13
   try clear hcz12_0
   try clear hcz12_1
   try clear hcz8_0
   try clear hcz8_1
   try clear hfz12_0
   try clear hfz12_1
   try clear hfz8_0
   try clear hfz8_1
   obtain ⟨kq, x24_5, rfl, HA, HJ5, BK215, BK220, HB⟩ := hcut
   cases kq with
   | zero => exact absurd HA.out (by simp [backfillref04_quotient.j0])
   | succ kj5 =>
    have H := HA.out
    clear HA
    simp only [backfillref04_quotient.j0] at H
    by_cases c14 : x24_5 = true
    ·subst c14
     have H1 : ((backfillref04_up.f t216 t217).bind fun bt221 => ((backfillref04_small.f bt221.1 bt221.2).bind fun bt223 => (some (bt223.1, bt223.2)))) = some (r1, r2) := by rw [if_pos rfl] at H; exact H
     clear H
     have H := H1
     clear H1; replace H := Option.bind_eq_some_iff.mp H; obtain ⟨⟨t221, t222⟩, A150, H⟩ := H; replace H : ((backfillref04_small.f t221 t222).bind fun bt223 => (some (bt223.1, bt223.2))) = some (r1, r2) := H; have A15 := Aside0.mk A150; clear A150; replace H := Option.bind_eq_some_iff.mp H; obtain ⟨⟨t223, t224⟩, A160, H⟩ := H; replace H : (some (t223, t224)) = some (r1, r2) := H; have A16 := Aside0.mk A160; clear A160
     simp only [Option.some.injEq, Prod.mk.injEq] at H
     obtain ⟨rfl, rfl⟩ := H
     have hnb17 := NB220_215.out
     have hnc17 := NB215_220.out
     have hcz18_0 : wc.cell? ⟨gb220, 0, none⟩ = some (.int .u64 t216) := (blk_cell BK220.out 0).trans rfl
     have hcz18_1 : wc.cell? ⟨gb220, 1, none⟩ = some (.int .u64 t217) := (blk_cell BK220.out 1).trans rfl
     have hfz18_0 := blk_frozen BK220.out 0
     have hfz18_1 := blk_frozen BK220.out 1
     go_wp2_with (first | ((with_reducible refine gate_callee (f := 57) rfl ?_); refine goesL_ (some 26) rfl rfl Tryd.func57 (by kernel_rfl) rfl #[.agg #[.int .u64 t216, .int .u64 t217]] rfl aA ?_; (with_reducible refine (backfillref04_up.calls t216 t217 t221 t222 _ A15.out).mono ?_); rintro e w19 ⟨rfl, hb⟩; refine ⟨_, rfl, ?_⟩; have n0_ := Aside0.mk (blk_below (g := gb215) (o := .cells #[.int .u64 a0_0, .int .u64 a0_1] 26 (0, 0)) kA hb); have n1_ := Aside0.mk (blk_below (g := gb220) (o := .cells #[.int .u64 t216, .int .u64 t217] 26 (0, 0)) kA hb); have n2_ := Aside0.mk (below_step bA hb); clear BK215 BK220 HB; have BK215 := n0_; have BK220 := n1_; have HB := n2_; clear n0_ n1_ n2_; (try clear hb); have hcz20_0 : w19.cell? ⟨gb220, 0, none⟩ = some (.int .u64 t216) := (blk_cell BK220.out 0).trans rfl; have hcz20_1 : w19.cell? ⟨gb220, 1, none⟩ = some (.int .u64 t217) := (blk_cell BK220.out 1).trans rfl; have hfz20_0 := blk_frozen BK220.out 0; have hfz20_1 := blk_frozen BK220.out 1) | ((with_reducible refine gate_callee (f := 49) rfl ?_); refine goesL_ (some 28) rfl rfl Tryd.func49 (by kernel_rfl) rfl #[.agg #[.int .u64 t221, .int .u64 t222]] rfl aA ?_; (with_reducible refine (backfillref04_small.calls t221 t222 t223 t224 _ A16.out).mono ?_); rintro e w21 ⟨rfl, hb⟩; refine ⟨_, rfl, ?_⟩; have n0_ := Aside0.mk (blk_below (g := gb215) (o := .cells #[.int .u64 a0_0, .int .u64 a0_1] 26 (0, 0)) (by (with_reducible repeat (first | refine blk_drewN ?_ _ | refine blk_drew ?_ | refine blk_alloc ?_ _)); refine blk_far ?_ NB215_220.out _; (with_reducible repeat (first | refine blk_drewN ?_ _ | refine blk_drew ?_ | refine blk_alloc ?_ _)); refine blk_far ?_ NB215_220.out _; (with_reducible repeat (first | refine blk_drewN ?_ _ | refine blk_drew ?_ | refine blk_alloc ?_ _)); exact BK215.out) hb); have n1_ := Aside0.mk (blk_below (g := gb220) (o := .cells #[.int .u64 t221, .int .u64 t222] 26 (0, 0)) (by (with_reducible repeat (first | refine blk_drewN ?_ _ | refine blk_drew ?_ | refine blk_alloc ?_ _)); refine blk_put (cs := #[.int .u64 t221, .int .u64 t217]) ?_ 1 _ rfl; (with_reducible repeat (first | refine blk_drewN ?_ _ | refine blk_drew ?_ | refine blk_alloc ?_ _)); refine blk_put (cs := #[.int .u64 t216, .int .u64 t217]) ?_ 0 _ rfl; (with_reducible repeat (first | refine blk_drewN ?_ _ | refine blk_drew ?_ | refine blk_alloc ?_ _)); exact BK220.out) hb); have n2_ := Aside0.mk (below_step bA hb); clear BK215 BK220 HB; have BK215 := n0_; have BK220 := n1_; have HB := n2_; clear n0_ n1_ n2_; (try clear hb)))
     go_ret2
     exact ⟨by first | rfl | (simp [errW_none, errW_some] <;> rfl) | (simp [*, errW_none, errW_some] <;> rfl), bA⟩
    ·replace c14 := Bool.eq_false_iff.mpr c14
     subst c14
     have H1 : ((backfillref04_small.f t216 t217).bind fun bt225 => (some (bt225.1, bt225.2))) = some (r1, r2) := by rw [if_neg (show ¬ (false = true) by decide)] at H; exact H
     clear H
     have H := H1
     clear H1; replace H := Option.bind_eq_some_iff.mp H; obtain ⟨⟨t225, t226⟩, A220, H⟩ := H; replace H : (some (t225, t226)) = some (r1, r2) := H; have A22 := Aside0.mk A220; clear A220
     simp only [Option.some.injEq, Prod.mk.injEq] at H
     obtain ⟨rfl, rfl⟩ := H
     have hnb23 := NB220_215.out
     have hnc23 := NB215_220.out
     have hcz24_0 : wc.cell? ⟨gb220, 0, none⟩ = some (.int .u64 t216) := (blk_cell BK220.out 0).trans rfl
     have hcz24_1 : wc.cell? ⟨gb220, 1, none⟩ = some (.int .u64 t217) := (blk_cell BK220.out 1).trans rfl
     have hfz24_0 := blk_frozen BK220.out 0
     have hfz24_1 := blk_frozen BK220.out 1
     go_wp2_with (first | ((with_reducible refine gate_callee (f := 49) rfl ?_); refine goesL_ (some 28) rfl rfl Tryd.func49 (by kernel_rfl) rfl #[.agg #[.int .u64 t216, .int .u64 t217]] rfl aA ?_; (with_reducible refine (backfillref04_small.calls t216 t217 t225 t226 _ A22.out).mono ?_); rintro e w25 ⟨rfl, hb⟩; refine ⟨_, rfl, ?_⟩; have n0_ := Aside0.mk (blk_below (g := gb215) (o := .cells #[.int .u64 a0_0, .int .u64 a0_1] 26 (0, 0)) kA hb); have n1_ := Aside0.mk (blk_below (g := gb220) (o := .cells #[.int .u64 t216, .int .u64 t217] 26 (0, 0)) kA hb); have n2_ := Aside0.mk (below_step bA hb); clear BK215 BK220 HB; have BK215 := n0_; have BK220 := n1_; have HB := n2_; clear n0_ n1_ n2_; (try clear hb)))
     go_ret2
     exact ⟨by first | rfl | (simp [errW_none, errW_some] <;> rfl) | (simp [*, errW_none, errW_some] <;> rfl), bA⟩
 ·replace c5 := Bool.eq_false_iff.mpr c5
  subst c5
  have H1 : (some (18446744073709551615, false)) = some (r1, r2) := by rw [if_neg (show ¬ (false = true) by decide)] at H; exact H
  clear H
  have H := H1
  clear H1
  simp only [Option.some.injEq, Prod.mk.injEq] at H
  obtain ⟨rfl, rfl⟩ := H
  go_enter Tryd.func51, Tryd.ntmps51
  go_wp2_with (first | ((with_reducible refine gate_dst (N := 3) rfl ?_); refine bxA 3 #[.int .u64 a0_0, .int .u64 a0_1] 26 ?_; intro gb215 hg w26 hbox hb; have n0_ := Aside0.mk (below_step bA hb); have n1_ := Aside0.mk (hbox); have n2_ := Aside0.mk ((by rw [hg]; exact (below_size bA) : w.heap.size ≤ gb215)); have n3_ := Aside0.mk ((by rw [hg]; exact (below_size bA) : w.heap.size ≤ gb215)); clear HB; have HB := n0_; have BK215 := n1_; have GW215 := n2_; have GE215 := n3_; clear n0_ n1_ n2_ n3_ hb hbox hg; have hcz27_0 : w26.cell? ⟨gb215, 0, none⟩ = some (.int .u64 a0_0) := (blk_cell BK215.out 0).trans rfl; have hcz27_1 : w26.cell? ⟨gb215, 1, none⟩ = some (.int .u64 a0_1) := (blk_cell BK215.out 1).trans rfl; have hfz27_0 := blk_frozen BK215.out 0; have hfz27_1 := blk_frozen BK215.out 1) | ((with_reducible refine gate_callee (f := 56) rfl ?_); refine goesL_ (some 14) rfl rfl Tryd.func56 (by kernel_rfl) rfl #[.agg #[.int .u64 a0_0, .int .u64 a0_1], .int .u64 a1] rfl aA ?_; (with_reducible refine (backfillref01_Div.calls k a0_0 a0_1 a1 t216 t217 t218 false _ A4.out).mono ?_); rintro e w28 ⟨rfl, hb⟩; refine ⟨_, rfl, ?_⟩; have n0_ := Aside0.mk (blk_below (g := gb215) (o := .cells #[.int .u64 a0_0, .int .u64 a0_1] 26 (0, 0)) kA hb); have n1_ := Aside0.mk (below_step bA hb); clear BK215 HB; have BK215 := n0_; have HB := n1_; clear n0_ n1_; (try clear hb)) | ((with_reducible refine gate_dst (N := 8) rfl ?_); refine bxA 8 #[.int .u64 0, .int .u64 0] 26 ?_; intro gb220 hg w29 hbox hb; have n0_ := Aside0.mk (blk_below (g := gb215) (o := .cells #[.int .u64 a0_0, .int .u64 a0_1] 26 (0, 0)) kA hb); have n1_ := Aside0.mk (below_step bA hb); have n2_ := Aside0.mk (hbox); have n3_ := Aside0.mk ((by rw [hg]; exact (below_size bA) : w.heap.size ≤ gb220)); have n4_ := Aside0.mk ((by rw [hg]; exact (below_size bA) : w.heap.size ≤ gb220)); have n5_ := Aside0.mk ((by rw [hg]; exact Nat.ne_of_lt (blk_lt (g := gb215) (o := .cells #[.int .u64 a0_0, .int .u64 a0_1] 26 (0, 0)) kA) : gb215 ≠ gb220)); have n6_ := Aside0.mk ((by rw [hg]; exact Nat.ne_of_gt (blk_lt (g := gb215) (o := .cells #[.int .u64 a0_0, .int .u64 a0_1] 26 (0, 0)) kA) : gb220 ≠ gb215)); clear BK215 HB; have BK215 := n0_; have HB := n1_; have BK220 := n2_; have GW220 := n3_; have GE220 := n4_; have NB215_220 := n5_; have NB220_215 := n6_; clear n0_ n1_ n2_ n3_ n4_ n5_ n6_ hb hbox hg; have hnb30 := NB220_215.out; have hnc30 := NB215_220.out; have hcz31_0 : w29.cell? ⟨gb220, 0, none⟩ = some (.int .u64 0) := (blk_cell BK220.out 0).trans rfl; have hcz31_1 : w29.cell? ⟨gb220, 1, none⟩ = some (.int .u64 0) := (blk_cell BK220.out 1).trans rfl; have hfz31_0 := blk_frozen BK220.out 0; have hfz31_1 := blk_frozen BK220.out 1))
  go_ret2
  exact ⟨by first | rfl | (simp [errW_none, errW_some] <;> rfl) | (simp [*, errW_none, errW_some] <;> rfl), bA⟩

/-! ### backfillref04_Part: function 41 -/
def backfillref04_Part.f (k : Nat) (a0 : Int) (a1 : Int) : Option (Int) := if a1 > 9223372036854775808 then (some a0) else ((backfillref01_Mul.f a0 a1).bind fun bt227 => ((backfillref04_quotient.f k bt227.1 bt227.2 9223372036854775808 false).bind fun bt229 => (some bt229.1)))
theorem backfillref04_Part.mono : ∀ a0 a1 k, LeO (backfillref04_Part.f k a0 a1) (backfillref04_Part.f (k + 1) a0 a1) := by
 intro a0 a1 k
 unfold backfillref04_Part.f
 repeat' first
   | (with_reducible exact backfillref04_quotient.mono _ _ _ _ _)
   | (with_reducible exact LeO.refl _)
   | (with_reducible exact LeO.none _)
   | (with_reducible refine LeO.ite ?_ ?_)
   | (with_reducible refine LeO.bind ?_ (fun _ => ?_))
   | exact backfillref04_quotient.mono _ _ _ _ _
   | exact LeO.none _
   | refine LeO.ite ?_ ?_
   | refine LeO.bind ?_ (fun _ => ?_)
set_option maxHeartbeats 8000000 in
set_option maxRecDepth 100000 in
theorem backfillref04_Part.calls (k : Nat) (a0 : Int) (a1 : Int) (r : Int) (w : World) (h : backfillref04_Part.f k a0 a1 = some r) :
  Calls Tryd.prog 41 #[.int .u64 a0, .int .u64 a1] w fun e w' => e = .returned (.int .u64 r) ∧ Below w.heap.size w w' := by
 have HB := Aside0.mk (Below.refl w.heap.size w)
 have H : (if a1 > 9223372036854775808 then (some a0) else ((backfillref01_Mul.f a0 a1).bind fun bt227 => ((backfillref04_quotient.f k bt227.1 bt227.2 9223372036854775808 false).bind fun bt229 => (some bt229.1)))) = some r := h
 clear h
 by_cases c3 : a1 > 9223372036854775808
 ·rw [if_pos c3] at H
  have c3b0 : decide (9223372036854775808 < a1) = true := decide_eq_true c3
  clear c3
  obtain rfl := Option.some.inj H
  go_enter Tryd.func41, Tryd.ntmps41
  go_wp2
  go_ret
  exact ⟨by first | rfl | (simp [errW_none, errW_some] <;> rfl) | (simp [*, errW_none, errW_some] <;> rfl), bA⟩
 ·rw [if_neg c3] at H
  have c3b0 : decide (9223372036854775808 < a1) = false := decide_eq_false c3
  clear c3; replace H := Option.bind_eq_some_iff.mp H; obtain ⟨⟨t227, t228⟩, A40, H⟩ := H; replace H : ((backfillref04_quotient.f k t227 t228 9223372036854775808 false).bind fun bt229 => (some bt229.1)) = some r := H; have A4 := Aside0.mk A40; clear A40; replace H := Option.bind_eq_some_iff.mp H; obtain ⟨⟨t229, t230⟩, A50, H⟩ := H; replace H : (some t229) = some r := H; have A5 := Aside0.mk A50; clear A50
  obtain rfl := Option.some.inj H
  go_enter Tryd.func41, Tryd.ntmps41
  go_wp2_with (first | ((with_reducible refine gate_callee (f := 16) rfl ?_); refine goesL_ (some 13) rfl rfl Tryd.func16 (by kernel_rfl) rfl #[.int .u64 a0, .int .u64 a1] rfl aA ?_; (with_reducible refine (backfillref01_Mul.calls a0 a1 t227 t228 _ A4.out).mono ?_); rintro e w6 ⟨rfl, hb⟩; refine ⟨_, rfl, ?_⟩; have n0_ := Aside0.mk (below_step bA hb); clear HB; have HB := n0_; clear n0_; (try clear hb)) | ((with_reducible refine gate_callee (f := 51) rfl ?_); refine goesL_ (some 14) rfl rfl Tryd.func51 (by kernel_rfl) rfl #[.agg #[.int .u64 t227, .int .u64 t228], .int .u64 9223372036854775808, .bool false] rfl aA ?_; (with_reducible refine (backfillref04_quotient.calls k t227 t228 9223372036854775808 false t229 t230 _ A5.out).mono ?_); rintro e w7 ⟨rfl, hb⟩; refine ⟨_, rfl, ?_⟩; have n0_ := Aside0.mk (below_step bA hb); clear HB; have HB := n0_; clear n0_; (try clear hb)))
  go_ret
  exact ⟨by first | rfl | (simp [errW_none, errW_some] <;> rfl) | (simp [*, errW_none, errW_some] <;> rfl), bA⟩

/-! ### backfillref10_Fade: function 29 -/
def backfillref10_Fade.f (k : Nat) (a0 : Int) (a1 : Int) : Option (Int) := (backfillref04_Part.f k a0 a1).bind fun t231 => (some t231)
theorem backfillref10_Fade.mono : ∀ a0 a1 k, LeO (backfillref10_Fade.f k a0 a1) (backfillref10_Fade.f (k + 1) a0 a1) := by
 intro a0 a1 k
 unfold backfillref10_Fade.f
 repeat' first
   | (with_reducible exact backfillref04_Part.mono _ _ _)
   | (with_reducible exact LeO.refl _)
   | (with_reducible exact LeO.none _)
   | (with_reducible refine LeO.ite ?_ ?_)
   | (with_reducible refine LeO.bind ?_ (fun _ => ?_))
   | exact backfillref04_Part.mono _ _ _
   | exact LeO.none _
   | refine LeO.ite ?_ ?_
   | refine LeO.bind ?_ (fun _ => ?_)
set_option maxHeartbeats 8000000 in
set_option maxRecDepth 100000 in
theorem backfillref10_Fade.calls (k : Nat) (a0 : Int) (a1 : Int) (r : Int) (w : World) (h : backfillref10_Fade.f k a0 a1 = some r) :
  Calls Tryd.prog 29 #[.int .u64 a0, .int .u64 a1] w fun e w' => e = .returned (.int .u64 r) ∧ Below w.heap.size w w' := by
 have HB := Aside0.mk (Below.refl w.heap.size w)
 have H : ((backfillref04_Part.f k a0 a1).bind fun t231 => (some t231)) = some r := h
 clear h; replace H := Option.bind_eq_some_iff.mp H; obtain ⟨t231, A30, H⟩ := H; replace H : (some t231) = some r := H; have A3 := Aside0.mk A30; clear A30
 obtain rfl := Option.some.inj H
 go_enter Tryd.func29, Tryd.ntmps29
 go_wp2_with (first | ((with_reducible refine gate_callee (f := 41) rfl ?_); refine goesL_ (some 7) rfl rfl Tryd.func41 (by kernel_rfl) rfl #[.int .u64 a0, .int .u64 a1] rfl aA ?_; (with_reducible refine (backfillref04_Part.calls k a0 a1 t231 _ A3.out).mono ?_); rintro e w4 ⟨rfl, hb⟩; refine ⟨_, rfl, ?_⟩; have n0_ := Aside0.mk (below_step bA hb); clear HB; have HB := n0_; clear n0_; (try clear hb)))
 go_ret
 exact ⟨by first | rfl | (simp [errW_none, errW_some] <;> rfl) | (simp [*, errW_none, errW_some] <;> rfl), bA⟩

/-! ### backfilllaw10_DecayTells: function 7 -/
def backfilllaw10_DecayTells.f (k : Nat) (a0 : Int) (a1 : Int) (a2 : Int) (a3 : Int) (a4 : Int) : Option (Bool) := (backfilllaw10_shown.f).bind fun t232 => ((decay_Factor.f a0 a1).bind fun bt233 => ((backfillref10_Factor.f k a0 a1).bind fun bt235 => (if t232 = true then (if bt233.1 = bt235.1 then (if bt233.2 = bt235.2 then ((decay_Charge.f a2 a4).bind fun t237 => ((backfillref10_Charge.f a2 a4).bind fun t238 => (if t237 = t238 then ((decay_Fade.f a2 a3).bind fun t239 => ((backfillref10_Fade.f k a2 a3).bind fun t240 => (some (t239 == t240)))) else (none)))) else (none)) else (none)) else (none))))
theorem backfilllaw10_DecayTells.mono : ∀ a0 a1 a2 a3 a4 k, LeO (backfilllaw10_DecayTells.f k a0 a1 a2 a3 a4) (backfilllaw10_DecayTells.f (k + 1) a0 a1 a2 a3 a4) := by
 intro a0 a1 a2 a3 a4 k
 unfold backfilllaw10_DecayTells.f
 repeat' first
   | (with_reducible exact backfillref10_Factor.mono _ _ _)
   | (with_reducible exact backfillref10_Fade.mono _ _ _)
   | (with_reducible exact LeO.refl _)
   | (with_reducible exact LeO.none _)
   | (with_reducible refine LeO.ite ?_ ?_)
   | (with_reducible refine LeO.bind ?_ (fun _ => ?_))
   | exact backfillref10_Factor.mono _ _ _
   | exact backfillref10_Fade.mono _ _ _
   | exact LeO.none _
   | refine LeO.ite ?_ ?_
   | refine LeO.bind ?_ (fun _ => ?_)
set_option maxHeartbeats 8000000 in
set_option maxRecDepth 100000 in
theorem backfilllaw10_DecayTells.calls (k : Nat) (a0 : Int) (a1 : Int) (a2 : Int) (a3 : Int) (a4 : Int) (r : Bool) (w : World) (hL : LaidW w) (h : backfilllaw10_DecayTells.f k a0 a1 a2 a3 a4 = some r) :
  Calls Tryd.prog 7 #[.int .i64 a0, .int .i64 a1, .int .u64 a2, .int .u64 a3, .int .i64 a4] w fun e w' => e = .returned (.bool r) ∧ Below w.heap.size w w' := by
 have HB := Aside0.mk (Below.refl w.heap.size w)
 have H : ((backfilllaw10_shown.f).bind fun t232 => ((decay_Factor.f a0 a1).bind fun bt233 => ((backfillref10_Factor.f k a0 a1).bind fun bt235 => (if t232 = true then (if bt233.1 = bt235.1 then (if bt233.2 = bt235.2 then ((decay_Charge.f a2 a4).bind fun t237 => ((backfillref10_Charge.f a2 a4).bind fun t238 => (if t237 = t238 then ((decay_Fade.f a2 a3).bind fun t239 => ((backfillref10_Fade.f k a2 a3).bind fun t240 => (some (t239 == t240)))) else (none)))) else (none)) else (none)) else (none))))) = some r := h
 clear h; replace H := Option.bind_eq_some_iff.mp H; obtain ⟨t232, A60, H⟩ := H; replace H : ((decay_Factor.f a0 a1).bind fun bt233 => ((backfillref10_Factor.f k a0 a1).bind fun bt235 => (if t232 = true then (if bt233.1 = bt235.1 then (if bt233.2 = bt235.2 then ((decay_Charge.f a2 a4).bind fun t237 => ((backfillref10_Charge.f a2 a4).bind fun t238 => (if t237 = t238 then ((decay_Fade.f a2 a3).bind fun t239 => ((backfillref10_Fade.f k a2 a3).bind fun t240 => (some (t239 == t240)))) else (none)))) else (none)) else (none)) else (none)))) = some r := H; have A6 := Aside0.mk A60; clear A60; replace H := Option.bind_eq_some_iff.mp H; obtain ⟨⟨t233, t234⟩, A70, H⟩ := H; replace H : ((backfillref10_Factor.f k a0 a1).bind fun bt235 => (if t232 = true then (if t233 = bt235.1 then (if t234 = bt235.2 then ((decay_Charge.f a2 a4).bind fun t237 => ((backfillref10_Charge.f a2 a4).bind fun t238 => (if t237 = t238 then ((decay_Fade.f a2 a3).bind fun t239 => ((backfillref10_Fade.f k a2 a3).bind fun t240 => (some (t239 == t240)))) else (none)))) else (none)) else (none)) else (none))) = some r := H; have A7 := Aside0.mk A70; clear A70; replace H := Option.bind_eq_some_iff.mp H; obtain ⟨⟨t235, t236⟩, A80, H⟩ := H; replace H : (if t232 = true then (if t233 = t235 then (if t234 = t236 then ((decay_Charge.f a2 a4).bind fun t237 => ((backfillref10_Charge.f a2 a4).bind fun t238 => (if t237 = t238 then ((decay_Fade.f a2 a3).bind fun t239 => ((backfillref10_Fade.f k a2 a3).bind fun t240 => (some (t239 == t240)))) else (none)))) else (none)) else (none)) else (none)) = some r := H; have A8 := Aside0.mk A80; clear A80
 by_cases c9 : t232 = true
 ·subst c9
  have H1 : (if t233 = t235 then (if t234 = t236 then ((decay_Charge.f a2 a4).bind fun t237 => ((backfillref10_Charge.f a2 a4).bind fun t238 => (if t237 = t238 then ((decay_Fade.f a2 a3).bind fun t239 => ((backfillref10_Fade.f k a2 a3).bind fun t240 => (some (t239 == t240)))) else (none)))) else (none)) else (none)) = some r := by rw [if_pos rfl] at H; exact H
  clear H
  have H := H1
  clear H1
  by_cases c10 : t233 = t235
  ·rw [if_pos c10] at H
   have c10b0 : (t233 == t235) = true := beq_iff_eq.mpr c10
   have c10b1 : (t233 != t235) = false := bne_eq_false_iff_eq.mpr c10
   clear c10
   by_cases c11 : t234 = t236
   ·rw [if_pos c11] at H
    have c11b0 : (t234 == t236) = true := beq_iff_eq.mpr c11
    have c11b1 : (t234 != t236) = false := bne_eq_false_iff_eq.mpr c11
    clear c11; replace H := Option.bind_eq_some_iff.mp H; obtain ⟨t237, A120, H⟩ := H; replace H : ((backfillref10_Charge.f a2 a4).bind fun t238 => (if t237 = t238 then ((decay_Fade.f a2 a3).bind fun t239 => ((backfillref10_Fade.f k a2 a3).bind fun t240 => (some (t239 == t240)))) else (none))) = some r := H; have A12 := Aside0.mk A120; clear A120; replace H := Option.bind_eq_some_iff.mp H; obtain ⟨t238, A130, H⟩ := H; replace H : (if t237 = t238 then ((decay_Fade.f a2 a3).bind fun t239 => ((backfillref10_Fade.f k a2 a3).bind fun t240 => (some (t239 == t240)))) else (none)) = some r := H; have A13 := Aside0.mk A130; clear A130
    by_cases c14 : t237 = t238
    ·rw [if_pos c14] at H
     have c14b0 : (t237 == t238) = true := beq_iff_eq.mpr c14
     have c14b1 : (t237 != t238) = false := bne_eq_false_iff_eq.mpr c14
     clear c14; replace H := Option.bind_eq_some_iff.mp H; obtain ⟨t239, A150, H⟩ := H; replace H : ((backfillref10_Fade.f k a2 a3).bind fun t240 => (some (t239 == t240))) = some r := H; have A15 := Aside0.mk A150; clear A150; replace H := Option.bind_eq_some_iff.mp H; obtain ⟨t240, A160, H⟩ := H; replace H : (some (t239 == t240)) = some r := H; have A16 := Aside0.mk A160; clear A160
     obtain rfl := Option.some.inj H
     go_enter Tryd.func7, Tryd.ntmps7
     go_wp2_with (first | ((with_reducible refine gate_callee (f := 23) rfl ?_); refine goesL_ (some 16) rfl rfl Tryd.func23 (by kernel_rfl) rfl #[] rfl aA ?_; (with_reducible refine (backfilllaw10_shown.calls  true _ ?side1 A6.out).mono ?_); (case side1 => exact laid_below hL bA); rintro e w17 ⟨rfl, hb⟩; refine ⟨_, rfl, ?_⟩; have n0_ := Aside0.mk (below_step bA hb); clear HB; have HB := n0_; clear n0_; (try clear hb)) | ((with_reducible refine gate_callee (f := 24) rfl ?_); refine goesL_ (some 20) rfl rfl Tryd.func24 (by kernel_rfl) rfl #[.int .i64 a0, .int .i64 a1] rfl aA ?_; (with_reducible refine (decay_Factor.calls a0 a1 t233 t234 _ ?side1 A7.out).mono ?_); (case side1 => exact laid_below hL bA); rintro e w18 ⟨rfl, hb⟩; refine ⟨_, rfl, ?_⟩; have n0_ := Aside0.mk (below_step bA hb); clear HB; have HB := n0_; clear n0_; (try clear hb)) | ((with_reducible refine gate_callee (f := 25) rfl ?_); refine goesL_ (some 26) rfl rfl Tryd.func25 (by kernel_rfl) rfl #[.int .i64 a0, .int .i64 a1] rfl aA ?_; (with_reducible refine (backfillref10_Factor.calls k a0 a1 t235 t236 _ A8.out).mono ?_); rintro e w19 ⟨rfl, hb⟩; refine ⟨_, rfl, ?_⟩; have n0_ := Aside0.mk (below_step bA hb); clear HB; have HB := n0_; clear n0_; (try clear hb)) | (go_at_call 26; (with_reducible refine (decay_Charge.calls a2 a4 t237 _ A12.out).mono ?_); rintro e w20 ⟨rfl, hb⟩; have n0_ := Aside0.mk (below_step bA hb); clear HB; have HB := n0_; clear n0_; (try clear hb)) | (go_at_call 27; (with_reducible refine (backfillref10_Charge.calls a2 a4 t238 _ A13.out).mono ?_); rintro e w21 ⟨rfl, hb⟩; have n0_ := Aside0.mk (below_step bA hb); clear HB; have HB := n0_; clear n0_; (try clear hb)) | (go_at_call 28; (with_reducible refine (decay_Fade.calls a2 a3 t239 _ A15.out).mono ?_); rintro e w22 ⟨rfl, hb⟩; have n0_ := Aside0.mk (below_step bA hb); clear HB; have HB := n0_; clear n0_; (try clear hb)) | (go_at_call 29; (with_reducible refine (backfillref10_Fade.calls k a2 a3 t240 _ A16.out).mono ?_); rintro e w23 ⟨rfl, hb⟩; have n0_ := Aside0.mk (below_step bA hb); clear HB; have HB := n0_; clear n0_; (try clear hb)))
     go_ret
     exact ⟨by first | rfl | (simp [errW_none, errW_some] <;> rfl) | (simp [*, errW_none, errW_some] <;> rfl), bA⟩
    ·rw [if_neg c14] at H
     exact absurd H (by simp)
   ·rw [if_neg c11] at H
    exact absurd H (by simp)
  ·rw [if_neg c10] at H
   exact absurd H (by simp)
 ·replace c9 := Bool.eq_false_iff.mpr c9
  subst c9
  have H1 : (none) = some r := by rw [if_neg (show ¬ (false = true) by decide)] at H; exact H
  clear H
  have H := H1
  clear H1
  exact absurd H (by simp)

/-- THE ONE PURE STATEMENT of backfilllaw10_DecayTells: yours. -/
def backfilllaw10_DecayTells.Pure : Prop := ∀ (a0 : Int) (a1 : Int) (a2 : Int) (a3 : Int) (a4 : Int), (Lit.int .i64 a0).wf = true → (Lit.int .i64 a1).wf = true → (Lit.int .u64 a2).wf = true → (Lit.int .u64 a3).wf = true → (Lit.int .i64 a4).wf = true → ∃ k, backfilllaw10_DecayTells.f k a0 a1 a2 a3 a4 = some true
theorem backfilllaw10_DecayTells.walk (P : backfilllaw10_DecayTells.Pure) (a0 : Int) (a1 : Int) (a2 : Int) (a3 : Int) (a4 : Int) (w : World) (hL : LaidW w) (w0 : (Lit.int .i64 a0).wf = true) (w1 : (Lit.int .i64 a1).wf = true) (w2 : (Lit.int .u64 a2).wf = true) (w3 : (Lit.int .u64 a3).wf = true) (w4 : (Lit.int .i64 a4).wf = true) :
  Calls Tryd.prog 7 #[.int .i64 a0, .int .i64 a1, .int .u64 a2, .int .u64 a3, .int .i64 a4] w fun e w' => e = .returned (.bool true) ∧ Below w.heap.size w w' := by
 obtain ⟨k, h⟩ := P a0 a1 a2 a3 a4 w0 w1 w2 w3 w4
 refine (backfilllaw10_DecayTells.calls k a0 a1 a2 a3 a4 true w hL h).mono ?_
 rintro e w' ⟨rfl, hd⟩
 exact ⟨rfl, hd⟩

end Go.Proofs.YtmgmggkebmgafaaDoor.GK
