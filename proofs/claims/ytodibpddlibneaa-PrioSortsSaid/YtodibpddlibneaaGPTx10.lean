-- Laid by a program of this session (wip/tools/pr.py): contracts and pure functions; Lean checks it.
import Derived.Test.YtodibpddlibneaaGPTx0
import Derived.Test.YtodibpddlibneaaGPTx9
namespace Go.Proofs.Ytodibpddlibneaa.GPT
open Go.RowKit Go.Proofs.YtodibpddlibneaaW.PrintWords Go.Proofs.YtodibpddlibneaaW.PrintLast Go.Proofs.YtodibpddlibneaaW.PrintMore
attribute [local go_sem] max2_int min2_int max_two min_two max_three min_three max_four min_four   -- for this text's walks alone
set_option linter.unusedVariables false
set_option linter.unusedSimpArgs false

/-! ### backfilllaw14_shown: function 6 -/
def backfilllaw14_shown.f : Option Bool := some true
section
open Go.Proofs.Ytodibpddlibneaa.S Go.Proofs.Ytodibpddlibneaa.H
theorem shown14_sort4 : sortL (fun x y : Int => decide (x < y)) [3, 1, 2, 1] = [1, 1, 2, 3] := by
 simp [sortL, mergeL]
theorem shown14_c_ints {w : World} {k : IntKind} {A : Option Addr} {n : Nat} {xs : List Int} (h : Rd (Ei k) w A n xs) : Kd.C (Kd.int k) w A n xs :=
 Kd.C_of_reads (d := 0) ⟨h.1, h.2.1, fun hn => by
  obtain ⟨ad, e, hc⟩ := h.2.2 hn
  refine ⟨ad, e, fun j hj => ?_⟩
  obtain ⟨ad', e', hc'⟩ := Rd.int h j hj
  rw [e] at e'; cases e'
  simpa [rd] using hc'⟩
theorem shown14_p1 : prio_Priority.f 10 4 8 10 2 1000 3 100 100 10 0 2 0 4 0 0 0 [] 9223372036854775808 = some 1018 := by decide +kernel
theorem shown14_p2 : prio_Priority.f 10 4 8 10 2 1000 3 100 100 10 0 2 0 4 0 0 0 [] 4611686018427387904 = some 518 := by decide +kernel
theorem shown14_p3 : prio_Priority.f 10 4 8 10 2 1000 3 100 100 10 0 2 0 4 0 0 0 [] 0 = some 18 := by decide +kernel
theorem shown14_p4 : prio_Priority.f 10 0 0 0 0 0 0 0 0 10 0 2 0 4 0 0 0 [] 0 = some 0 := by decide +kernel
theorem shown14_q1 (w : World) : Calls Try.prog 12 #[.agg #[.int .i64 4, .int .i64 8, .int .i64 10, .int .i64 2, .int .i64 1000, .int .i64 3, .int .i64 100, .int .i64 100], .int .i64 10, .agg #[.int .i64 0, .int .i64 2, .int .i64 0, .int .i64 4, .int .i64 0, .int .i64 0, .int .i64 0, .slice none 0 0], .int .u64 9223372036854775808] w fun e w' => e = .returned (.int .i64 1018) ∧ Below w.heap.size w w' :=
 prio_Priority.calls 10 4 8 10 2 1000 3 100 100 10 0 2 0 4 0 0 0 none 0 [] 9223372036854775808 1018 w (shown14_c_ints (Rd.nil (Ei .i64) w none)) (by decide) shown14_p1
theorem shown14_q2 (w : World) : Calls Try.prog 12 #[.agg #[.int .i64 4, .int .i64 8, .int .i64 10, .int .i64 2, .int .i64 1000, .int .i64 3, .int .i64 100, .int .i64 100], .int .i64 10, .agg #[.int .i64 0, .int .i64 2, .int .i64 0, .int .i64 4, .int .i64 0, .int .i64 0, .int .i64 0, .slice none 0 0], .int .u64 4611686018427387904] w fun e w' => e = .returned (.int .i64 518) ∧ Below w.heap.size w w' :=
 prio_Priority.calls 10 4 8 10 2 1000 3 100 100 10 0 2 0 4 0 0 0 none 0 [] 4611686018427387904 518 w (shown14_c_ints (Rd.nil (Ei .i64) w none)) (by decide) shown14_p2
theorem shown14_q3 (w : World) : Calls Try.prog 12 #[.agg #[.int .i64 4, .int .i64 8, .int .i64 10, .int .i64 2, .int .i64 1000, .int .i64 3, .int .i64 100, .int .i64 100], .int .i64 10, .agg #[.int .i64 0, .int .i64 2, .int .i64 0, .int .i64 4, .int .i64 0, .int .i64 0, .int .i64 0, .slice none 0 0], .int .u64 0] w fun e w' => e = .returned (.int .i64 18) ∧ Below w.heap.size w w' :=
 prio_Priority.calls 10 4 8 10 2 1000 3 100 100 10 0 2 0 4 0 0 0 none 0 [] 0 18 w (shown14_c_ints (Rd.nil (Ei .i64) w none)) (by decide) shown14_p3
theorem shown14_q4 (w : World) : Calls Try.prog 12 #[.agg #[.int .i64 0, .int .i64 0, .int .i64 0, .int .i64 0, .int .i64 0, .int .i64 0, .int .i64 0, .int .i64 0], .int .i64 10, .agg #[.int .i64 0, .int .i64 2, .int .i64 0, .int .i64 4, .int .i64 0, .int .i64 0, .int .i64 0, .slice none 0 0], .int .u64 0] w fun e w' => e = .returned (.int .i64 0) ∧ Below w.heap.size w w' :=
 prio_Priority.calls 10 0 0 0 0 0 0 0 0 10 0 2 0 4 0 0 0 none 0 [] 0 0 w (shown14_c_ints (Rd.nil (Ei .i64) w none)) (by decide) shown14_p4
set_option maxHeartbeats 8000000 in
set_option maxRecDepth 100000 in
theorem backfilllaw14_shown.calls (r : Bool) (w : World) (h : backfilllaw14_shown.f = some r) :
  Calls Try.prog 6 #[] w fun e w' => e = .returned (.bool r) ∧ Below w.heap.size w w' := by
 obtain rfl : true = r := Option.some.inj h
 clear h
 have HS := Aside0.mk (Sort_calls Try.func17 (by kernel_rfl) rfl less_order (w.alloc (.cells #[.int .i64 3, .int .i64 1, .int .i64 2, .int .i64 1] 3)) (some ⟨w.heap.size, 0, none⟩) 4 4 [3, 1, 2, 1] (rd_lit (Ei .i64) w 3 [3, 1, 2, 1] (by decide)) (by decide) (by decide) trivial (by simp) (by simp))
 rw [shown14_sort4] at HS
 go_enter Try.func6, Try.ntmps6
 go_wp2_with fail
 refine (HS.out).mono ?_
 rintro e w1 ⟨v, rfl, ho, hg, -⟩
 obtain ⟨A, c, rfl, hr, hc, -⟩ := own_open rfl ho
 have HR := Aside0.mk hr
 have HC := Aside0.mk hc
 have HB := Aside0.mk (below_gb (Below.alloc (Below.refl _ _) (Nat.le_refl _) (.cells #[.int .i64 3, .int .i64 1, .int .i64 2, .int .i64 1] 3)) hg (by simp) (by simp)); clear HS ho hg hr hc
 obtain ⟨w2, hw2⟩ : ∃ w2, w2 = w1.alloc (.cells #[.int .i64 0, .int .i64 2, .int .i64 0, .int .i64 4, .int .i64 0, .int .i64 0, .int .i64 0, .slice none 0 0] 34) := ⟨_, rfl⟩
 have HJd := Aside0.mk (show w2.drew.heap[w1.heap.size]? = some (.cells #[.int .i64 0, .int .i64 2, .int .i64 0, .int .i64 4, .int .i64 0, .int .i64 0, .int .i64 0, .slice none 0 0] 34 (0, 0)) by rw [hw2]; exact heap_alloc_new w1 _)
 have HBd := Aside0.mk (show Below w.heap.size w w2.drew by rw [hw2]; exact below_drew (below_alloc HB.out _)); have HRd := Aside0.mk (show Rd (Ei .i64) w2.drew A 4 [1, 1, 2, 3] by rw [hw2]; exact (rd_alloc HR.out _).gb (gb_drew _ none))
 go_wp2_with fail
 rw [← hw2]
 have HJ10 : Aside0 ((w2.alloc (.cells #[.int .i64 1, .int .i64 1, .int .i64 2, .int .i64 3] 3)).drew.heap[w1.heap.size]? = some (.cells #[.int .i64 0, .int .i64 2, .int .i64 0, .int .i64 4, .int .i64 0, .int .i64 0, .int .i64 0, .slice none 0 0] 34 (0, 0))) := ⟨blk_kept HJd.out (World.grownBy_alloc _ (.cells #[.int .i64 1, .int .i64 1, .int .i64 2, .int .i64 3] 3) none) (by simp)⟩
 have HB10 : Aside0 (Below w.heap.size w (w2.alloc (.cells #[.int .i64 1, .int .i64 1, .int .i64 2, .int .i64 3] 3)).drew) := ⟨below_alloc HBd.out (.cells #[.int .i64 1, .int .i64 1, .int .i64 2, .int .i64 3] 3)⟩
 have HCs : Aside0 (Calls Try.prog 18 #[.slice A 4 c, .slice (some ⟨w2.heap.size, 0, none⟩) 4 4] (w2.alloc (.cells #[.int .i64 1, .int .i64 1, .int .i64 2, .int .i64 3] 3)).drew fun e w' => e = .returned (.bool true) ∧ Drawn0 (w2.alloc (.cells #[.int .i64 1, .int .i64 1, .int .i64 2, .int .i64 3] 3)).drew w') :=
  ⟨backfilllaw14_sameInts.calls 10 A c [1, 1, 2, 3] (some ⟨w2.heap.size, 0, none⟩) 4 [1, 1, 2, 3] true _ (shown14_c_ints (rd_alloc HRd.out (.cells #[.int .i64 1, .int .i64 1, .int .i64 2, .int .i64 3] 3))) HC.out (shown14_c_ints (rd_lit (Ei .i64) w2.drew 3 [1, 1, 2, 3] (by decide))) (by decide) (by decide +kernel)⟩
 clear HB HR hw2
 refine start_ (n := 28) (S := fun w' => w'.cell? ⟨w1.heap.size, 0, none⟩ = some (.int .i64 0) ∧ w'.cell? ⟨w1.heap.size, 1, none⟩ = some (.int .i64 2) ∧ w'.cell? ⟨w1.heap.size, 2, none⟩ = some (.int .i64 0) ∧ w'.cell? ⟨w1.heap.size, 3, none⟩ = some (.int .i64 4) ∧ w'.cell? ⟨w1.heap.size, 4, none⟩ = some (.int .i64 0) ∧ w'.cell? ⟨w1.heap.size, 5, none⟩ = some (.int .i64 0) ∧ w'.cell? ⟨w1.heap.size, 6, none⟩ = some (.int .i64 0) ∧ w'.cell? ⟨w1.heap.size, 7, none⟩ = some (.slice none 0 0)) (ds := []) #[false, false, false, false, false, false, false, false, false, false, false, false, false, false, false, false, false, false, false, false, false, false, false, false, false, false, false, false] (by kernel_rfl) rfl rfl ⟨cell_at HJd.out rfl, cell_at HJd.out rfl, cell_at HJd.out rfl, cell_at HJd.out rfl, cell_at HJd.out rfl, cell_at HJd.out rfl, cell_at HJd.out rfl, cell_at HJd.out rfl⟩ (fun hHeld => ?_)
 refine pure_ (i := 0) (N := some 6) (v := ?_) (a' := ?_) #[true, false, false, false, false, false, false, false, false, false, false, false, false, false, false, false, false, false, false, false, false, false, false, false, false, false, false, false] rfl rfl (by kernel_rfl) (fun _ _ _ h => h) (Or.inl ⟨by rfl, ?_⟩) ?_ ?_
 rotate_left
 ·intro w'
  go_simp; with_reducible rfl
 rotate_left
 ·simp only [Act.put, List.setIfInBounds_toArray, List.set_cons_zero, List.set_cons_succ, i64_w, i32_w]
  rfl
 refine one_ (i := 1) (N := some 7) #[true, true, false, false, false, false, false, false, false, false, false, false, false, false, false, false, false, false, false, false, false, false, false, false, false, false, false, false] rfl rfl (by kernel_rfl) (by decide) (fun K hK => ?_)
 refine value_ (w1 := ?_) (v := ?_) (by rfl) rfl ?_ ?_
 rotate_left 2
 ·go_simp
  constructor
  ·rfl
  ·rfl
 clear HJd HBd HRd
 refine hK.out _ _ ⟨cell_at HJ10.out rfl, cell_at HJ10.out rfl, cell_at HJ10.out rfl, cell_at HJ10.out rfl, cell_at HJ10.out rfl, cell_at HJ10.out rfl, cell_at HJ10.out rfl, cell_at HJ10.out rfl⟩ (fun hHeld => ?_)
 clear hK K
 refine norm_ (a' := ?_) ?_ ?_
 rotate_left
 ·show Act.put _ (some 7) _ = _
  simp only [Act.put, List.setIfInBounds_toArray, List.set_cons_zero, List.set_cons_succ, i64_w, i32_w]
  rfl
 refine one_ (i := 2) (N := some 8) #[true, true, true, false, false, false, false, false, false, false, false, false, false, false, false, false, false, false, false, false, false, false, false, false, false, false, false, false] rfl rfl (by kernel_rfl) (by decide) (fun K hK => ?_)
 refine goes_ Try.func18 (by kernel_rfl) rfl #[.slice A 4 c, .slice (some ⟨w2.heap.size, 0, none⟩) 4 4] (by rfl) rfl rfl (by simp only [List.map_toArray, List.map_cons, List.map_nil]; try rfl) ?_
 with_reducible refine (HCs.out).mono ?_
 rintro e w11 ⟨rfl, hd⟩
 refine ⟨_, rfl, ?_⟩
 have hb := Drawn0.below hd
 have HJ11 := Aside0.mk (blk_kept HJ10.out (gb_of_below hb none) (by simp)); have HB11 := Aside0.mk (below_step HB10.out hb); clear HJ10 HB10 hb hd HCs
 refine hK.out _ _ ⟨cell_at HJ11.out rfl, cell_at HJ11.out rfl, cell_at HJ11.out rfl, cell_at HJ11.out rfl, cell_at HJ11.out rfl, cell_at HJ11.out rfl, cell_at HJ11.out rfl, cell_at HJ11.out rfl⟩ (fun hHeld => ?_)
 clear hK K
 refine norm_ (a' := ?_) ?_ ?_
 rotate_left
 ·show Act.put _ (some 8) _ = _
  simp only [Act.put, List.setIfInBounds_toArray, List.set_cons_zero, List.set_cons_succ, i64_w, i32_w]
  rfl
 refine pure_ (i := 3) (N := some 9) (v := ?_) (a' := ?_) #[true, true, true, true, false, false, false, false, false, false, false, false, false, false, false, false, false, false, false, false, false, false, false, false, false, false, false, false] rfl rfl (by kernel_rfl) (fun _ _ _ h => h) (Or.inl ⟨by rfl, ?_⟩) ?_ ?_
 rotate_left
 ·intro w'
  go_simp; with_reducible rfl
 rotate_left
 ·simp only [Act.put, List.setIfInBounds_toArray, List.set_cons_zero, List.set_cons_succ, i64_w, i32_w]
  rfl
 refine take_ (i := 5) (N := some 11) (v := ?_) (a' := ?_) #[true, true, true, true, false, true, false, false, false, false, false, false, false, false, false, false, false, false, false, false, false, false, false, false, false, false, false, false] rfl rfl (by kernel_rfl) (fun _ _ _ h => h) (Or.inl ⟨by rfl, ?_⟩) hHeld ?_ ?_
 rotate_left
 ·rintro w' ⟨s0, s1, s2, s3, s4, s5, s6, s7⟩
  go_simp; with_reducible rfl
 rotate_left
 ·simp only [Act.put, List.setIfInBounds_toArray, List.set_cons_zero, List.set_cons_succ, i64_w, i32_w]
  rfl
 refine one_ (i := 4) (N := some 10) #[true, true, true, true, true, true, false, false, false, false, false, false, false, false, false, false, false, false, false, false, false, false, false, false, false, false, false, false] rfl rfl (by kernel_rfl) (by decide) (fun K hK => ?_)
 refine goes_ Try.func19 (by kernel_rfl) rfl #[] (by rfl) rfl rfl (by simp only [List.map_toArray, List.map_cons, List.map_nil]; try rfl) ?_
 with_reducible refine (backfilllaw14_plain.calls 4 8 10 2 1000 3 100 100 _ rfl).mono ?_
 rintro e w12 ⟨rfl, hb⟩
 refine ⟨_, rfl, ?_⟩
 have HJ12 := Aside0.mk (blk_kept HJ11.out (gb_of_below hb none) (by simp)); have HB12 := Aside0.mk (below_step HB11.out hb); clear HJ11 HB11 hb
 refine hK.out _ _ ⟨cell_at HJ12.out rfl, cell_at HJ12.out rfl, cell_at HJ12.out rfl, cell_at HJ12.out rfl, cell_at HJ12.out rfl, cell_at HJ12.out rfl, cell_at HJ12.out rfl, cell_at HJ12.out rfl⟩ (fun hHeld => ?_)
 clear hK K
 refine norm_ (a' := ?_) ?_ ?_
 rotate_left
 ·show Act.put _ (some 10) _ = _
  simp only [Act.put, List.setIfInBounds_toArray, List.set_cons_zero, List.set_cons_succ, i64_w, i32_w]
  rfl
 refine one_ (i := 6) (N := some 12) #[true, true, true, true, true, true, true, false, false, false, false, false, false, false, false, false, false, false, false, false, false, false, false, false, false, false, false, false] rfl rfl (by kernel_rfl) (by decide) (fun K hK => ?_)
 refine goes_ Try.func12 (by kernel_rfl) rfl #[.agg #[.int .i64 4, .int .i64 8, .int .i64 10, .int .i64 2, .int .i64 1000, .int .i64 3, .int .i64 100, .int .i64 100], .int .i64 10, .agg #[.int .i64 0, .int .i64 2, .int .i64 0, .int .i64 4, .int .i64 0, .int .i64 0, .int .i64 0, .slice none 0 0], .int .u64 9223372036854775808] (by rfl) rfl rfl (by simp only [List.map_toArray, List.map_cons, List.map_nil]; try rfl) ?_
 with_reducible refine (shown14_q1 _).mono ?_
 rintro e w13 ⟨rfl, hb⟩
 refine ⟨_, rfl, ?_⟩
 have HJ13 := Aside0.mk (blk_kept HJ12.out (gb_of_below hb none) (by simp)); have HB13 := Aside0.mk (below_step HB12.out hb); clear HJ12 HB12 hb
 refine hK.out _ _ ⟨cell_at HJ13.out rfl, cell_at HJ13.out rfl, cell_at HJ13.out rfl, cell_at HJ13.out rfl, cell_at HJ13.out rfl, cell_at HJ13.out rfl, cell_at HJ13.out rfl, cell_at HJ13.out rfl⟩ (fun hHeld => ?_)
 clear hK K
 refine norm_ (a' := ?_) ?_ ?_
 rotate_left
 ·show Act.put _ (some 12) _ = _
  simp only [Act.put, List.setIfInBounds_toArray, List.set_cons_zero, List.set_cons_succ, i64_w, i32_w]
  rfl
 refine pure_ (i := 7) (N := some 13) (v := ?_) (a' := ?_) #[true, true, true, true, true, true, true, true, false, false, false, false, false, false, false, false, false, false, false, false, false, false, false, false, false, false, false, false] rfl rfl (by kernel_rfl) (fun _ _ _ h => h) (Or.inl ⟨by rfl, ?_⟩) ?_ ?_
 rotate_left
 ·intro w'
  go_simp; with_reducible rfl
 rotate_left
 ·simp only [Act.put, List.setIfInBounds_toArray, List.set_cons_zero, List.set_cons_succ, i64_w, i32_w]
  rfl
 refine pure_ (i := 8) (N := some 14) (v := ?_) (a' := ?_) #[true, true, true, true, true, true, true, true, true, false, false, false, false, false, false, false, false, false, false, false, false, false, false, false, false, false, false, false] rfl rfl (by kernel_rfl) (fun _ _ _ h => h) (Or.inl ⟨by rfl, ?_⟩) ?_ ?_
 rotate_left
 ·intro w'
  go_simp; with_reducible rfl
 rotate_left
 ·simp only [Act.put, List.setIfInBounds_toArray, List.set_cons_zero, List.set_cons_succ, i64_w, i32_w]
  rfl
 refine pure_ (i := 9) (N := some 15) (v := ?_) (a' := ?_) #[true, true, true, true, true, true, true, true, true, true, false, false, false, false, false, false, false, false, false, false, false, false, false, false, false, false, false, false] rfl rfl (by kernel_rfl) (fun _ _ _ h => h) (Or.inl ⟨by rfl, ?_⟩) ?_ ?_
 rotate_left
 ·intro w'
  go_simp; with_reducible rfl
 rotate_left
 ·simp only [Act.put, List.setIfInBounds_toArray, List.set_cons_zero, List.set_cons_succ, i64_w, i32_w]
  rfl
 refine take_ (i := 11) (N := some 17) (v := ?_) (a' := ?_) #[true, true, true, true, true, true, true, true, true, true, false, true, false, false, false, false, false, false, false, false, false, false, false, false, false, false, false, false] rfl rfl (by kernel_rfl) (fun _ _ _ h => h) (Or.inl ⟨by rfl, ?_⟩) hHeld ?_ ?_
 rotate_left
 ·rintro w' ⟨s0, s1, s2, s3, s4, s5, s6, s7⟩
  go_simp; with_reducible rfl
 rotate_left
 ·simp only [Act.put, List.setIfInBounds_toArray, List.set_cons_zero, List.set_cons_succ, i64_w, i32_w]
  rfl
 refine one_ (i := 10) (N := some 16) #[true, true, true, true, true, true, true, true, true, true, true, true, false, false, false, false, false, false, false, false, false, false, false, false, false, false, false, false] rfl rfl (by kernel_rfl) (by decide) (fun K hK => ?_)
 refine goes_ Try.func19 (by kernel_rfl) rfl #[] (by rfl) rfl rfl (by simp only [List.map_toArray, List.map_cons, List.map_nil]; try rfl) ?_
 with_reducible refine (backfilllaw14_plain.calls 4 8 10 2 1000 3 100 100 _ rfl).mono ?_
 rintro e w14 ⟨rfl, hb⟩
 refine ⟨_, rfl, ?_⟩
 have HJ14 := Aside0.mk (blk_kept HJ13.out (gb_of_below hb none) (by simp)); have HB14 := Aside0.mk (below_step HB13.out hb); clear HJ13 HB13 hb
 refine hK.out _ _ ⟨cell_at HJ14.out rfl, cell_at HJ14.out rfl, cell_at HJ14.out rfl, cell_at HJ14.out rfl, cell_at HJ14.out rfl, cell_at HJ14.out rfl, cell_at HJ14.out rfl, cell_at HJ14.out rfl⟩ (fun hHeld => ?_)
 clear hK K
 refine norm_ (a' := ?_) ?_ ?_
 rotate_left
 ·show Act.put _ (some 16) _ = _
  simp only [Act.put, List.setIfInBounds_toArray, List.set_cons_zero, List.set_cons_succ, i64_w, i32_w]
  rfl
 refine one_ (i := 12) (N := some 18) #[true, true, true, true, true, true, true, true, true, true, true, true, true, false, false, false, false, false, false, false, false, false, false, false, false, false, false, false] rfl rfl (by kernel_rfl) (by decide) (fun K hK => ?_)
 refine goes_ Try.func12 (by kernel_rfl) rfl #[.agg #[.int .i64 4, .int .i64 8, .int .i64 10, .int .i64 2, .int .i64 1000, .int .i64 3, .int .i64 100, .int .i64 100], .int .i64 10, .agg #[.int .i64 0, .int .i64 2, .int .i64 0, .int .i64 4, .int .i64 0, .int .i64 0, .int .i64 0, .slice none 0 0], .int .u64 4611686018427387904] (by rfl) rfl rfl (by simp only [List.map_toArray, List.map_cons, List.map_nil]; try rfl) ?_
 with_reducible refine (shown14_q2 _).mono ?_
 rintro e w15 ⟨rfl, hb⟩
 refine ⟨_, rfl, ?_⟩
 have HJ15 := Aside0.mk (blk_kept HJ14.out (gb_of_below hb none) (by simp)); have HB15 := Aside0.mk (below_step HB14.out hb); clear HJ14 HB14 hb
 refine hK.out _ _ ⟨cell_at HJ15.out rfl, cell_at HJ15.out rfl, cell_at HJ15.out rfl, cell_at HJ15.out rfl, cell_at HJ15.out rfl, cell_at HJ15.out rfl, cell_at HJ15.out rfl, cell_at HJ15.out rfl⟩ (fun hHeld => ?_)
 clear hK K
 refine norm_ (a' := ?_) ?_ ?_
 rotate_left
 ·show Act.put _ (some 18) _ = _
  simp only [Act.put, List.setIfInBounds_toArray, List.set_cons_zero, List.set_cons_succ, i64_w, i32_w]
  rfl
 refine pure_ (i := 13) (N := some 19) (v := ?_) (a' := ?_) #[true, true, true, true, true, true, true, true, true, true, true, true, true, true, false, false, false, false, false, false, false, false, false, false, false, false, false, false] rfl rfl (by kernel_rfl) (fun _ _ _ h => h) (Or.inl ⟨by rfl, ?_⟩) ?_ ?_
 rotate_left
 ·intro w'
  go_simp; with_reducible rfl
 rotate_left
 ·simp only [Act.put, List.setIfInBounds_toArray, List.set_cons_zero, List.set_cons_succ, i64_w, i32_w]
  rfl
 refine pure_ (i := 14) (N := some 20) (v := ?_) (a' := ?_) #[true, true, true, true, true, true, true, true, true, true, true, true, true, true, true, false, false, false, false, false, false, false, false, false, false, false, false, false] rfl rfl (by kernel_rfl) (fun _ _ _ h => h) (Or.inl ⟨by rfl, ?_⟩) ?_ ?_
 rotate_left
 ·intro w'
  go_simp; with_reducible rfl
 rotate_left
 ·simp only [Act.put, List.setIfInBounds_toArray, List.set_cons_zero, List.set_cons_succ, i64_w, i32_w]
  rfl
 refine pure_ (i := 15) (N := some 21) (v := ?_) (a' := ?_) #[true, true, true, true, true, true, true, true, true, true, true, true, true, true, true, true, false, false, false, false, false, false, false, false, false, false, false, false] rfl rfl (by kernel_rfl) (fun _ _ _ h => h) (Or.inl ⟨by rfl, ?_⟩) ?_ ?_
 rotate_left
 ·intro w'
  go_simp; with_reducible rfl
 rotate_left
 ·simp only [Act.put, List.setIfInBounds_toArray, List.set_cons_zero, List.set_cons_succ, i64_w, i32_w]
  rfl
 refine take_ (i := 17) (N := some 23) (v := ?_) (a' := ?_) #[true, true, true, true, true, true, true, true, true, true, true, true, true, true, true, true, false, true, false, false, false, false, false, false, false, false, false, false] rfl rfl (by kernel_rfl) (fun _ _ _ h => h) (Or.inl ⟨by rfl, ?_⟩) hHeld ?_ ?_
 rotate_left
 ·rintro w' ⟨s0, s1, s2, s3, s4, s5, s6, s7⟩
  go_simp; with_reducible rfl
 rotate_left
 ·simp only [Act.put, List.setIfInBounds_toArray, List.set_cons_zero, List.set_cons_succ, i64_w, i32_w]
  rfl
 refine one_ (i := 16) (N := some 22) #[true, true, true, true, true, true, true, true, true, true, true, true, true, true, true, true, true, true, false, false, false, false, false, false, false, false, false, false] rfl rfl (by kernel_rfl) (by decide) (fun K hK => ?_)
 refine goes_ Try.func19 (by kernel_rfl) rfl #[] (by rfl) rfl rfl (by simp only [List.map_toArray, List.map_cons, List.map_nil]; try rfl) ?_
 with_reducible refine (backfilllaw14_plain.calls 4 8 10 2 1000 3 100 100 _ rfl).mono ?_
 rintro e w16 ⟨rfl, hb⟩
 refine ⟨_, rfl, ?_⟩
 have HJ16 := Aside0.mk (blk_kept HJ15.out (gb_of_below hb none) (by simp)); have HB16 := Aside0.mk (below_step HB15.out hb); clear HJ15 HB15 hb
 refine hK.out _ _ ⟨cell_at HJ16.out rfl, cell_at HJ16.out rfl, cell_at HJ16.out rfl, cell_at HJ16.out rfl, cell_at HJ16.out rfl, cell_at HJ16.out rfl, cell_at HJ16.out rfl, cell_at HJ16.out rfl⟩ (fun hHeld => ?_)
 clear hK K
 refine norm_ (a' := ?_) ?_ ?_
 rotate_left
 ·show Act.put _ (some 22) _ = _
  simp only [Act.put, List.setIfInBounds_toArray, List.set_cons_zero, List.set_cons_succ, i64_w, i32_w]
  rfl
 refine one_ (i := 18) (N := some 24) #[true, true, true, true, true, true, true, true, true, true, true, true, true, true, true, true, true, true, true, false, false, false, false, false, false, false, false, false] rfl rfl (by kernel_rfl) (by decide) (fun K hK => ?_)
 refine goes_ Try.func12 (by kernel_rfl) rfl #[.agg #[.int .i64 4, .int .i64 8, .int .i64 10, .int .i64 2, .int .i64 1000, .int .i64 3, .int .i64 100, .int .i64 100], .int .i64 10, .agg #[.int .i64 0, .int .i64 2, .int .i64 0, .int .i64 4, .int .i64 0, .int .i64 0, .int .i64 0, .slice none 0 0], .int .u64 0] (by rfl) rfl rfl (by simp only [List.map_toArray, List.map_cons, List.map_nil]; try rfl) ?_
 with_reducible refine (shown14_q3 _).mono ?_
 rintro e w17 ⟨rfl, hb⟩
 refine ⟨_, rfl, ?_⟩
 have HJ17 := Aside0.mk (blk_kept HJ16.out (gb_of_below hb none) (by simp)); have HB17 := Aside0.mk (below_step HB16.out hb); clear HJ16 HB16 hb
 refine hK.out _ _ ⟨cell_at HJ17.out rfl, cell_at HJ17.out rfl, cell_at HJ17.out rfl, cell_at HJ17.out rfl, cell_at HJ17.out rfl, cell_at HJ17.out rfl, cell_at HJ17.out rfl, cell_at HJ17.out rfl⟩ (fun hHeld => ?_)
 clear hK K
 refine norm_ (a' := ?_) ?_ ?_
 rotate_left
 ·show Act.put _ (some 24) _ = _
  simp only [Act.put, List.setIfInBounds_toArray, List.set_cons_zero, List.set_cons_succ, i64_w, i32_w]
  rfl
 refine pure_ (i := 19) (N := some 25) (v := ?_) (a' := ?_) #[true, true, true, true, true, true, true, true, true, true, true, true, true, true, true, true, true, true, true, true, false, false, false, false, false, false, false, false] rfl rfl (by kernel_rfl) (fun _ _ _ h => h) (Or.inl ⟨by rfl, ?_⟩) ?_ ?_
 rotate_left
 ·intro w'
  go_simp; with_reducible rfl
 rotate_left
 ·simp only [Act.put, List.setIfInBounds_toArray, List.set_cons_zero, List.set_cons_succ, i64_w, i32_w]
  rfl
 refine pure_ (i := 20) (N := some 26) (v := ?_) (a' := ?_) #[true, true, true, true, true, true, true, true, true, true, true, true, true, true, true, true, true, true, true, true, true, false, false, false, false, false, false, false] rfl rfl (by kernel_rfl) (fun _ _ _ h => h) (Or.inl ⟨by rfl, ?_⟩) ?_ ?_
 rotate_left
 ·intro w'
  go_simp; with_reducible rfl
 rotate_left
 ·simp only [Act.put, List.setIfInBounds_toArray, List.set_cons_zero, List.set_cons_succ, i64_w, i32_w]
  rfl
 refine pure_ (i := 21) (N := some 27) (v := ?_) (a' := ?_) #[true, true, true, true, true, true, true, true, true, true, true, true, true, true, true, true, true, true, true, true, true, true, false, false, false, false, false, false] rfl rfl (by kernel_rfl) (fun _ _ _ h => h) (Or.inl ⟨by rfl, ?_⟩) ?_ ?_
 rotate_left
 ·intro w'
  go_simp; with_reducible rfl
 rotate_left
 ·simp only [Act.put, List.setIfInBounds_toArray, List.set_cons_zero, List.set_cons_succ, i64_w, i32_w]
  rfl
 refine pure_ (i := 22) (N := some 28) (v := ?_) (a' := ?_) #[true, true, true, true, true, true, true, true, true, true, true, true, true, true, true, true, true, true, true, true, true, true, true, false, false, false, false, false] rfl rfl (by kernel_rfl) (fun _ _ _ h => h) (Or.inl ⟨by rfl, ?_⟩) ?_ ?_
 rotate_left
 ·intro w'
  go_simp; with_reducible rfl
 rotate_left
 ·simp only [Act.put, List.setIfInBounds_toArray, List.set_cons_zero, List.set_cons_succ, i64_w, i32_w]
  rfl
 refine take_ (i := 23) (N := some 29) (v := ?_) (a' := ?_) #[true, true, true, true, true, true, true, true, true, true, true, true, true, true, true, true, true, true, true, true, true, true, true, true, false, false, false, false] rfl rfl (by kernel_rfl) (fun _ _ _ h => h) (Or.inl ⟨by rfl, ?_⟩) hHeld ?_ ?_
 rotate_left
 ·rintro w' ⟨s0, s1, s2, s3, s4, s5, s6, s7⟩
  go_simp; with_reducible rfl
 rotate_left
 ·simp only [Act.put, List.setIfInBounds_toArray, List.set_cons_zero, List.set_cons_succ, i64_w, i32_w]
  rfl
 refine one_ (i := 24) (N := some 30) #[true, true, true, true, true, true, true, true, true, true, true, true, true, true, true, true, true, true, true, true, true, true, true, true, true, false, false, false] rfl rfl (by kernel_rfl) (by decide) (fun K hK => ?_)
 refine goes_ Try.func12 (by kernel_rfl) rfl #[.agg #[.int .i64 0, .int .i64 0, .int .i64 0, .int .i64 0, .int .i64 0, .int .i64 0, .int .i64 0, .int .i64 0], .int .i64 10, .agg #[.int .i64 0, .int .i64 2, .int .i64 0, .int .i64 4, .int .i64 0, .int .i64 0, .int .i64 0, .slice none 0 0], .int .u64 0] (by rfl) rfl rfl (by simp only [List.map_toArray, List.map_cons, List.map_nil]; try rfl) ?_
 with_reducible refine (shown14_q4 _).mono ?_
 rintro e w18 ⟨rfl, hb⟩
 refine ⟨_, rfl, ?_⟩
 have HJ18 := Aside0.mk (blk_kept HJ17.out (gb_of_below hb none) (by simp)); have HB18 := Aside0.mk (below_step HB17.out hb); clear HJ17 HB17 hb
 refine hK.out _ _ ⟨cell_at HJ18.out rfl, cell_at HJ18.out rfl, cell_at HJ18.out rfl, cell_at HJ18.out rfl, cell_at HJ18.out rfl, cell_at HJ18.out rfl, cell_at HJ18.out rfl, cell_at HJ18.out rfl⟩ (fun hHeld => ?_)
 clear hK K
 refine norm_ (a' := ?_) ?_ ?_
 rotate_left
 ·show Act.put _ (some 30) _ = _
  simp only [Act.put, List.setIfInBounds_toArray, List.set_cons_zero, List.set_cons_succ, i64_w, i32_w]
  rfl
 refine pure_ (i := 25) (N := some 31) (v := ?_) (a' := ?_) #[true, true, true, true, true, true, true, true, true, true, true, true, true, true, true, true, true, true, true, true, true, true, true, true, true, true, false, false] rfl rfl (by kernel_rfl) (fun _ _ _ h => h) (Or.inl ⟨by rfl, ?_⟩) ?_ ?_
 rotate_left
 ·intro w'
  go_simp; with_reducible rfl
 rotate_left
 ·simp only [Act.put, List.setIfInBounds_toArray, List.set_cons_zero, List.set_cons_succ, i64_w, i32_w]
  rfl
 refine pure_ (i := 26) (N := some 32) (v := ?_) (a' := ?_) #[true, true, true, true, true, true, true, true, true, true, true, true, true, true, true, true, true, true, true, true, true, true, true, true, true, true, true, false] rfl rfl (by kernel_rfl) (fun _ _ _ h => h) (Or.inl ⟨by rfl, ?_⟩) ?_ ?_
 rotate_left
 ·intro w'
  go_simp; with_reducible rfl
 rotate_left
 ·simp only [Act.put, List.setIfInBounds_toArray, List.set_cons_zero, List.set_cons_succ, i64_w, i32_w]
  rfl
 refine pure_ (i := 27) (N := some 0) (v := ?_) (a' := ?_) #[true, true, true, true, true, true, true, true, true, true, true, true, true, true, true, true, true, true, true, true, true, true, true, true, true, true, true, true] rfl rfl (by kernel_rfl) (fun _ _ _ h => h) (Or.inl ⟨by rfl, ?_⟩) ?_ ?_
 rotate_left
 ·intro w'
  go_simp; with_reducible rfl
 rotate_left
 ·simp only [Act.put, List.setIfInBounds_toArray, List.set_cons_zero, List.set_cons_succ, i64_w, i32_w]
  rfl
 refine done_ (by kernel_rfl) ?_
 go_wp2
 go_ret
 exact ⟨rfl, HB18.out⟩
end

/-! ### backfillref11_within: function 39 -/
def backfillref11_within.f (a0 : Int) (a1 : Int) (a2 : Int) : Option (Bool) := if a0 ≥ a1 then (some (decide (a0 ≤ a2))) else (some false)
set_option maxHeartbeats 8000000 in
set_option maxRecDepth 100000 in
theorem backfillref11_within.calls (a0 : Int) (a1 : Int) (a2 : Int) (r : Bool) (w : World) (h : backfillref11_within.f a0 a1 a2 = some r) :
  Calls Try.prog 39 #[.int .i64 a0, .int .i64 a1, .int .i64 a2] w fun e w' => e = .returned (.bool r) ∧ Drawn0 w w' := by
 have H : (if a0 ≥ a1 then (some (decide (a0 ≤ a2))) else (some false)) = some r := h
 clear h
 by_cases c4 : a0 ≥ a1
 ·rw [if_pos c4] at H
  have c4b0 : decide (a1 ≤ a0) = true := decide_eq_true c4
  clear c4
  obtain rfl := Option.some.inj H
  go_enter Try.func39, Try.ntmps39
  go_wp2
  go_ret
  exact ⟨by first | rfl | (simp; done) | (simp [*]; done), by repeat (first | exact Drawn0.refl _ | apply Drawn0.step)⟩
 ·rw [if_neg c4] at H
  have c4b0 : decide (a1 ≤ a0) = false := decide_eq_false c4
  clear c4
  obtain rfl := Option.some.inj H
  go_enter Try.func39, Try.ntmps39
  go_wp2
  go_ret
  exact ⟨by first | rfl | (simp; done) | (simp [*]; done), by repeat (first | exact Drawn0.refl _ | apply Drawn0.step)⟩

/-! ### backfillref11_ranges: function 25 -/
def backfillref11_ranges.j0 : Nat → Bool → Int → Int → Int → Int → Int → Int → Int → Int → Option (Bool)
 | 0, _, _, _, _, _, _, _, _, _ => none
 | k + 1, x3, x216000, x216001, x216002, x216003, x216004, x216005, x216006, x216007 => (backfillref11_within.f x216003 1 1048576).bind fun t219 => (if t219 = true then ((backfillref11_within.f x216004 0 1048576).bind fun t220 => (if t220 = true then ((backfillref11_within.f x216005 0 1048576).bind fun t221 => (if x3 = true then (if t221 = true then ((backfillref11_within.f x216006 1 1048576).bind fun t222 => (if t222 = true then ((backfillref11_within.f x216007 1 1073741824).bind fun t223 => (some t223)) else (some false))) else (some false)) else (some false))) else (if x3 = true then (some false) else (some false)))) else (if x3 = true then (some false) else (some false)))
def backfillref11_ranges.f (k : Nat) (a0_0 : Int) (a0_1 : Int) (a0_2 : Int) (a0_3 : Int) (a0_4 : Int) (a0_5 : Int) (a0_6 : Int) (a0_7 : Int) : Option (Bool) := (backfillref11_within.f a0_0 1 256).bind fun t216 => (if t216 = true then ((backfillref11_within.f a0_1 1 128).bind fun t217 => (if t217 = true then ((backfillref11_within.f a0_2 1 1048576).bind fun t218 => (backfillref11_ranges.j0 k t218 a0_0 a0_1 a0_2 a0_3 a0_4 a0_5 a0_6 a0_7)) else (backfillref11_ranges.j0 k false a0_0 a0_1 a0_2 a0_3 a0_4 a0_5 a0_6 a0_7))) else (backfillref11_ranges.j0 k false a0_0 a0_1 a0_2 a0_3 a0_4 a0_5 a0_6 a0_7))
theorem backfillref11_ranges.mono_l : ∀ k, (∀ y0 y1 y2 y3 y4 y5 y6 y7 y8, LeO (backfillref11_ranges.j0 k y0 y1 y2 y3 y4 y5 y6 y7 y8) (backfillref11_ranges.j0 (k + 1) y0 y1 y2 y3 y4 y5 y6 y7 y8))
 | 0 => fun _ _ _ _ _ _ _ _ _ r h => by simp [backfillref11_ranges.j0] at h
 | k + 1 => by
  have ih0 := backfillref11_ranges.mono_l k
  ·intro y0 y1 y2 y3 y4 y5 y6 y7 y8
   unfold backfillref11_ranges.j0
   repeat' first
   | (with_reducible exact ih0 _ _ _ _ _ _ _ _ _)
   | (with_reducible exact LeO.refl _)
   | (with_reducible exact LeO.none _)
   | (with_reducible refine LeO.ite ?_ ?_)
   | (with_reducible refine LeO.bind ?_ (fun _ => ?_))
   | exact ih0 _ _ _ _ _ _ _ _ _
   | exact LeO.none _
   | refine LeO.ite ?_ ?_
   | refine LeO.bind ?_ (fun _ => ?_)
theorem backfillref11_ranges.mono : ∀ a0 a1 a2 a3 a4 a5 a6 a7 k, LeO (backfillref11_ranges.f k a0 a1 a2 a3 a4 a5 a6 a7) (backfillref11_ranges.f (k + 1) a0 a1 a2 a3 a4 a5 a6 a7) := by
 intro a0 a1 a2 a3 a4 a5 a6 a7 k
 have ih0 := backfillref11_ranges.mono_l k
 unfold backfillref11_ranges.f
 repeat' first
   | (with_reducible exact ih0 _ _ _ _ _ _ _ _ _)
   | (with_reducible exact LeO.refl _)
   | (with_reducible exact LeO.none _)
   | (with_reducible refine LeO.ite ?_ ?_)
   | (with_reducible refine LeO.bind ?_ (fun _ => ?_))
   | exact ih0 _ _ _ _ _ _ _ _ _
   | exact LeO.none _
   | refine LeO.ite ?_ ?_
   | refine LeO.bind ?_ (fun _ => ?_)
set_option maxHeartbeats 8000000 in
set_option maxRecDepth 100000 in
theorem backfillref11_ranges.calls (k : Nat) (a0_0 : Int) (a0_1 : Int) (a0_2 : Int) (a0_3 : Int) (a0_4 : Int) (a0_5 : Int) (a0_6 : Int) (a0_7 : Int) (r : Bool) (w : World) (h : backfillref11_ranges.f k a0_0 a0_1 a0_2 a0_3 a0_4 a0_5 a0_6 a0_7 = some r) :
  Calls Try.prog 25 #[.agg #[.int .i64 a0_0, .int .i64 a0_1, .int .i64 a0_2, .int .i64 a0_3, .int .i64 a0_4, .int .i64 a0_5, .int .i64 a0_6, .int .i64 a0_7]] w fun e w' => e = .returned (.bool r) ∧ Below w.heap.size w w' := by
 have hu31 := Try.underlying31
 have HB := Aside0.mk (Below.refl w.heap.size w)
 have H : ((backfillref11_within.f a0_0 1 256).bind fun t216 => (if t216 = true then ((backfillref11_within.f a0_1 1 128).bind fun t217 => (if t217 = true then ((backfillref11_within.f a0_2 1 1048576).bind fun t218 => (backfillref11_ranges.j0 k t218 a0_0 a0_1 a0_2 a0_3 a0_4 a0_5 a0_6 a0_7)) else (backfillref11_ranges.j0 k false a0_0 a0_1 a0_2 a0_3 a0_4 a0_5 a0_6 a0_7))) else (backfillref11_ranges.j0 k false a0_0 a0_1 a0_2 a0_3 a0_4 a0_5 a0_6 a0_7))) = some r := h
 clear h
 have HC2 := Aside0.mk H
 clear H
 go_enter Try.func25, Try.ntmps25
 go_upto_region 1 with (first | ((with_reducible refine gate_dst (N := 1) rfl ?_); refine bxA 1 #[.int .i64 a0_0, .int .i64 a0_1, .int .i64 a0_2, .int .i64 a0_3, .int .i64 a0_4, .int .i64 a0_5, .int .i64 a0_6, .int .i64 a0_7] 31 ?_; intro gb215 hg w3 hbox hb; have n0_ := Aside0.mk (below_step bA hb); have n1_ := Aside0.mk (hbox); have n2_ := Aside0.mk (gwA hg bA); have n3_ := Aside0.mk (gwA hg bA); clear HB; have HB := n0_; have BK215 := n1_; have GW215 := n2_; have GE215 := n3_; clear n0_ n1_ n2_ n3_ hb hbox hg))
 (try simp only [Act.put, List.setIfInBounds_toArray, List.set_cons_zero, List.set_cons_succ])
 go_cut [3] (fun v3 wc => ∃ (kq : Nat) (x3_1 : Bool), v3 = .bool x3_1 ∧ Aside0 (backfillref11_ranges.j0 kq x3_1 a0_0 a0_1 a0_2 a0_3 a0_4 a0_5 a0_6 a0_7 = some r) ∧ Aside0 (kq ≤ k) ∧ Aside0 (wc.heap[gb215]? = some (.cells #[.int .i64 a0_0, .int .i64 a0_1, .int .i64 a0_2, .int .i64 a0_3, .int .i64 a0_4, .int .i64 a0_5, .int .i64 a0_6, .int .i64 a0_7] 31 (0, 0))) ∧ Aside0 (Below w.heap.size w wc))
 case first =>
  have H := HC2.out
  clear HC2; replace H := Option.bind_eq_some_iff.mp H; obtain ⟨t216, A40, H⟩ := H; replace H : (if t216 = true then ((backfillref11_within.f a0_1 1 128).bind fun t217 => (if t217 = true then ((backfillref11_within.f a0_2 1 1048576).bind fun t218 => (backfillref11_ranges.j0 k t218 a0_0 a0_1 a0_2 a0_3 a0_4 a0_5 a0_6 a0_7)) else (backfillref11_ranges.j0 k false a0_0 a0_1 a0_2 a0_3 a0_4 a0_5 a0_6 a0_7))) else (backfillref11_ranges.j0 k false a0_0 a0_1 a0_2 a0_3 a0_4 a0_5 a0_6 a0_7)) = some r := H; have A4 := Aside0.mk A40; clear A40
  by_cases c5 : t216 = true
  ·subst c5
   have H1 : ((backfillref11_within.f a0_1 1 128).bind fun t217 => (if t217 = true then ((backfillref11_within.f a0_2 1 1048576).bind fun t218 => (backfillref11_ranges.j0 k t218 a0_0 a0_1 a0_2 a0_3 a0_4 a0_5 a0_6 a0_7)) else (backfillref11_ranges.j0 k false a0_0 a0_1 a0_2 a0_3 a0_4 a0_5 a0_6 a0_7))) = some r := by rw [if_pos rfl] at H; exact H
   clear H
   have H := H1
   clear H1; replace H := Option.bind_eq_some_iff.mp H; obtain ⟨t217, A60, H⟩ := H; replace H : (if t217 = true then ((backfillref11_within.f a0_2 1 1048576).bind fun t218 => (backfillref11_ranges.j0 k t218 a0_0 a0_1 a0_2 a0_3 a0_4 a0_5 a0_6 a0_7)) else (backfillref11_ranges.j0 k false a0_0 a0_1 a0_2 a0_3 a0_4 a0_5 a0_6 a0_7)) = some r := H; have A6 := Aside0.mk A60; clear A60
   by_cases c7 : t217 = true
   ·subst c7
    have H1 : ((backfillref11_within.f a0_2 1 1048576).bind fun t218 => (backfillref11_ranges.j0 k t218 a0_0 a0_1 a0_2 a0_3 a0_4 a0_5 a0_6 a0_7)) = some r := by rw [if_pos rfl] at H; exact H
    clear H
    have H := H1
    clear H1; replace H := Option.bind_eq_some_iff.mp H; obtain ⟨t218, A80, H⟩ := H; replace H : (backfillref11_ranges.j0 k t218 a0_0 a0_1 a0_2 a0_3 a0_4 a0_5 a0_6 a0_7) = some r := H; have A8 := Aside0.mk A80; clear A80
    have H' := Aside0.mk H
    clear H
    have hcz9_0 : w3.cell? ⟨gb215, 0, none⟩ = some (.int .i64 a0_0) := (blk_cell BK215.out 0).trans rfl
    have hcz9_1 : w3.cell? ⟨gb215, 1, none⟩ = some (.int .i64 a0_1) := (blk_cell BK215.out 1).trans rfl
    have hcz9_2 : w3.cell? ⟨gb215, 2, none⟩ = some (.int .i64 a0_2) := (blk_cell BK215.out 2).trans rfl
    have hcz9_3 : w3.cell? ⟨gb215, 3, none⟩ = some (.int .i64 a0_3) := (blk_cell BK215.out 3).trans rfl
    have hcz9_4 : w3.cell? ⟨gb215, 4, none⟩ = some (.int .i64 a0_4) := (blk_cell BK215.out 4).trans rfl
    have hcz9_5 : w3.cell? ⟨gb215, 5, none⟩ = some (.int .i64 a0_5) := (blk_cell BK215.out 5).trans rfl
    have hcz9_6 : w3.cell? ⟨gb215, 6, none⟩ = some (.int .i64 a0_6) := (blk_cell BK215.out 6).trans rfl
    have hcz9_7 : w3.cell? ⟨gb215, 7, none⟩ = some (.int .i64 a0_7) := (blk_cell BK215.out 7).trans rfl
    have hfz9_0 := blk_frozen BK215.out 0
    have hfz9_1 := blk_frozen BK215.out 1
    have hfz9_2 := blk_frozen BK215.out 2
    have hfz9_3 := blk_frozen BK215.out 3
    have hfz9_4 := blk_frozen BK215.out 4
    have hfz9_5 := blk_frozen BK215.out 5
    have hfz9_6 := blk_frozen BK215.out 6
    have hfz9_7 := blk_frozen BK215.out 7
    go_wp2_with (first | ((with_reducible refine gate_callee (f := 39) rfl ?_); refine goesL_ (some 7) rfl rfl Try.func39 (by kernel_rfl) rfl #[.int .i64 a0_0, .int .i64 1, .int .i64 256] rfl aA ?_; (with_reducible refine (backfillref11_within.calls a0_0 1 256 true _ A4.out).mono ?_); rintro e w' ⟨rfl, ⟨nd, rfl⟩⟩; refine ⟨_, rfl, ?_⟩) | (go_at_call 39; (with_reducible refine (backfillref11_within.calls a0_1 1 128 true _ A6.out).mono ?_); rintro e w' ⟨rfl, ⟨nd, rfl⟩⟩) | (go_at_call 39; (with_reducible refine (backfillref11_within.calls a0_2 1 1048576 t218 _ A8.out).mono ?_); rintro e w' ⟨rfl, ⟨nd, rfl⟩⟩))
    go_meet
    case rel => exact ⟨_, (t218), (by first | rfl | (simp; done) | (simp [*]; done)), H', ⟨by first | omega | exact Nat.le_refl _⟩, ⟨by exact kA⟩, ⟨bA⟩⟩
   ·replace c7 := Bool.eq_false_iff.mpr c7
    subst c7
    have H1 : (backfillref11_ranges.j0 k false a0_0 a0_1 a0_2 a0_3 a0_4 a0_5 a0_6 a0_7) = some r := by rw [if_neg (show ¬ (false = true) by decide)] at H; exact H
    clear H
    have H := H1
    clear H1
    have H' := Aside0.mk H
    clear H
    have hcz10_0 : w3.cell? ⟨gb215, 0, none⟩ = some (.int .i64 a0_0) := (blk_cell BK215.out 0).trans rfl
    have hcz10_1 : w3.cell? ⟨gb215, 1, none⟩ = some (.int .i64 a0_1) := (blk_cell BK215.out 1).trans rfl
    have hcz10_2 : w3.cell? ⟨gb215, 2, none⟩ = some (.int .i64 a0_2) := (blk_cell BK215.out 2).trans rfl
    have hcz10_3 : w3.cell? ⟨gb215, 3, none⟩ = some (.int .i64 a0_3) := (blk_cell BK215.out 3).trans rfl
    have hcz10_4 : w3.cell? ⟨gb215, 4, none⟩ = some (.int .i64 a0_4) := (blk_cell BK215.out 4).trans rfl
    have hcz10_5 : w3.cell? ⟨gb215, 5, none⟩ = some (.int .i64 a0_5) := (blk_cell BK215.out 5).trans rfl
    have hcz10_6 : w3.cell? ⟨gb215, 6, none⟩ = some (.int .i64 a0_6) := (blk_cell BK215.out 6).trans rfl
    have hcz10_7 : w3.cell? ⟨gb215, 7, none⟩ = some (.int .i64 a0_7) := (blk_cell BK215.out 7).trans rfl
    have hfz10_0 := blk_frozen BK215.out 0
    have hfz10_1 := blk_frozen BK215.out 1
    have hfz10_2 := blk_frozen BK215.out 2
    have hfz10_3 := blk_frozen BK215.out 3
    have hfz10_4 := blk_frozen BK215.out 4
    have hfz10_5 := blk_frozen BK215.out 5
    have hfz10_6 := blk_frozen BK215.out 6
    have hfz10_7 := blk_frozen BK215.out 7
    go_wp2_with (first | ((with_reducible refine gate_callee (f := 39) rfl ?_); refine goesL_ (some 7) rfl rfl Try.func39 (by kernel_rfl) rfl #[.int .i64 a0_0, .int .i64 1, .int .i64 256] rfl aA ?_; (with_reducible refine (backfillref11_within.calls a0_0 1 256 true _ A4.out).mono ?_); rintro e w' ⟨rfl, ⟨nd, rfl⟩⟩; refine ⟨_, rfl, ?_⟩) | (go_at_call 39; (with_reducible refine (backfillref11_within.calls a0_1 1 128 false _ A6.out).mono ?_); rintro e w' ⟨rfl, ⟨nd, rfl⟩⟩))
    go_meet
    case rel => exact ⟨_, (false), (by first | rfl | (simp; done) | (simp [*]; done)), H', ⟨by first | omega | exact Nat.le_refl _⟩, ⟨by exact kA⟩, ⟨bA⟩⟩
  ·replace c5 := Bool.eq_false_iff.mpr c5
   subst c5
   have H1 : (backfillref11_ranges.j0 k false a0_0 a0_1 a0_2 a0_3 a0_4 a0_5 a0_6 a0_7) = some r := by rw [if_neg (show ¬ (false = true) by decide)] at H; exact H
   clear H
   have H := H1
   clear H1
   have H' := Aside0.mk H
   clear H
   have hcz11_0 : w3.cell? ⟨gb215, 0, none⟩ = some (.int .i64 a0_0) := (blk_cell BK215.out 0).trans rfl
   have hcz11_1 : w3.cell? ⟨gb215, 1, none⟩ = some (.int .i64 a0_1) := (blk_cell BK215.out 1).trans rfl
   have hcz11_2 : w3.cell? ⟨gb215, 2, none⟩ = some (.int .i64 a0_2) := (blk_cell BK215.out 2).trans rfl
   have hcz11_3 : w3.cell? ⟨gb215, 3, none⟩ = some (.int .i64 a0_3) := (blk_cell BK215.out 3).trans rfl
   have hcz11_4 : w3.cell? ⟨gb215, 4, none⟩ = some (.int .i64 a0_4) := (blk_cell BK215.out 4).trans rfl
   have hcz11_5 : w3.cell? ⟨gb215, 5, none⟩ = some (.int .i64 a0_5) := (blk_cell BK215.out 5).trans rfl
   have hcz11_6 : w3.cell? ⟨gb215, 6, none⟩ = some (.int .i64 a0_6) := (blk_cell BK215.out 6).trans rfl
   have hcz11_7 : w3.cell? ⟨gb215, 7, none⟩ = some (.int .i64 a0_7) := (blk_cell BK215.out 7).trans rfl
   have hfz11_0 := blk_frozen BK215.out 0
   have hfz11_1 := blk_frozen BK215.out 1
   have hfz11_2 := blk_frozen BK215.out 2
   have hfz11_3 := blk_frozen BK215.out 3
   have hfz11_4 := blk_frozen BK215.out 4
   have hfz11_5 := blk_frozen BK215.out 5
   have hfz11_6 := blk_frozen BK215.out 6
   have hfz11_7 := blk_frozen BK215.out 7
   go_wp2_with (first | ((with_reducible refine gate_callee (f := 39) rfl ?_); refine goesL_ (some 7) rfl rfl Try.func39 (by kernel_rfl) rfl #[.int .i64 a0_0, .int .i64 1, .int .i64 256] rfl aA ?_; (with_reducible refine (backfillref11_within.calls a0_0 1 256 false _ A4.out).mono ?_); rintro e w' ⟨rfl, ⟨nd, rfl⟩⟩; refine ⟨_, rfl, ?_⟩))
   go_meet
   case rel => exact ⟨_, (false), (by first | rfl | (simp; done) | (simp [*]; done)), H', ⟨by first | omega | exact Nat.le_refl _⟩, ⟨by exact kA⟩, ⟨bA⟩⟩
 case rest =>
  clear HC2
  try clear c2
  try clear p2
  try clear c3
  try clear c5
  try clear c7
  try clear hcz10_0
  try clear hcz10_1
  try clear hcz10_2
  try clear hcz10_3
  try clear hcz10_4
  try clear hcz10_5
  try clear hcz10_6
  try clear hcz10_7
  try clear hcz11_0
  try clear hcz11_1
  try clear hcz11_2
  try clear hcz11_3
  try clear hcz11_4
  try clear hcz11_5
  try clear hcz11_6
  try clear hcz11_7
  try clear hcz9_0
  try clear hcz9_1
  try clear hcz9_2
  try clear hcz9_3
  try clear hcz9_4
  try clear hcz9_5
  try clear hcz9_6
  try clear hcz9_7
  try clear hfz10_0
  try clear hfz10_1
  try clear hfz10_2
  try clear hfz10_3
  try clear hfz10_4
  try clear hfz10_5
  try clear hfz10_6
  try clear hfz10_7
  try clear hfz11_0
  try clear hfz11_1
  try clear hfz11_2
  try clear hfz11_3
  try clear hfz11_4
  try clear hfz11_5
  try clear hfz11_6
  try clear hfz11_7
  try clear hfz9_0
  try clear hfz9_1
  try clear hfz9_2
  try clear hfz9_3
  try clear hfz9_4
  try clear hfz9_5
  try clear hfz9_6
  try clear hfz9_7
  obtain ⟨kq, x3_1, rfl, HA, HJ1, BK215, HB⟩ := hcut
  cases kq with
  | zero => exact absurd HA.out (by simp [backfillref11_ranges.j0])
  | succ kj1 =>
   have H := HA.out
   clear HA
   simp only [backfillref11_ranges.j0] at H
   replace H := Option.bind_eq_some_iff.mp H; obtain ⟨t219, A120, H⟩ := H; replace H : (if t219 = true then ((backfillref11_within.f a0_4 0 1048576).bind fun t220 => (if t220 = true then ((backfillref11_within.f a0_5 0 1048576).bind fun t221 => (if x3_1 = true then (if t221 = true then ((backfillref11_within.f a0_6 1 1048576).bind fun t222 => (if t222 = true then ((backfillref11_within.f a0_7 1 1073741824).bind fun t223 => (some t223)) else (some false))) else (some false)) else (some false))) else (if x3_1 = true then (some false) else (some false)))) else (if x3_1 = true then (some false) else (some false))) = some r := H; have A12 := Aside0.mk A120; clear A120
   by_cases c13 : t219 = true
   ·subst c13
    have H1 : ((backfillref11_within.f a0_4 0 1048576).bind fun t220 => (if t220 = true then ((backfillref11_within.f a0_5 0 1048576).bind fun t221 => (if x3_1 = true then (if t221 = true then ((backfillref11_within.f a0_6 1 1048576).bind fun t222 => (if t222 = true then ((backfillref11_within.f a0_7 1 1073741824).bind fun t223 => (some t223)) else (some false))) else (some false)) else (some false))) else (if x3_1 = true then (some false) else (some false)))) = some r := by rw [if_pos rfl] at H; exact H
    clear H
    have H := H1
    clear H1; replace H := Option.bind_eq_some_iff.mp H; obtain ⟨t220, A140, H⟩ := H; replace H : (if t220 = true then ((backfillref11_within.f a0_5 0 1048576).bind fun t221 => (if x3_1 = true then (if t221 = true then ((backfillref11_within.f a0_6 1 1048576).bind fun t222 => (if t222 = true then ((backfillref11_within.f a0_7 1 1073741824).bind fun t223 => (some t223)) else (some false))) else (some false)) else (some false))) else (if x3_1 = true then (some false) else (some false))) = some r := H; have A14 := Aside0.mk A140; clear A140
    by_cases c15 : t220 = true
    ·subst c15
     have H1 : ((backfillref11_within.f a0_5 0 1048576).bind fun t221 => (if x3_1 = true then (if t221 = true then ((backfillref11_within.f a0_6 1 1048576).bind fun t222 => (if t222 = true then ((backfillref11_within.f a0_7 1 1073741824).bind fun t223 => (some t223)) else (some false))) else (some false)) else (some false))) = some r := by rw [if_pos rfl] at H; exact H
     clear H
     have H := H1
     clear H1; replace H := Option.bind_eq_some_iff.mp H; obtain ⟨t221, A160, H⟩ := H; replace H : (if x3_1 = true then (if t221 = true then ((backfillref11_within.f a0_6 1 1048576).bind fun t222 => (if t222 = true then ((backfillref11_within.f a0_7 1 1073741824).bind fun t223 => (some t223)) else (some false))) else (some false)) else (some false)) = some r := H; have A16 := Aside0.mk A160; clear A160
     by_cases c17 : x3_1 = true
     ·subst c17
      have H1 : (if t221 = true then ((backfillref11_within.f a0_6 1 1048576).bind fun t222 => (if t222 = true then ((backfillref11_within.f a0_7 1 1073741824).bind fun t223 => (some t223)) else (some false))) else (some false)) = some r := by rw [if_pos rfl] at H; exact H
      clear H
      have H := H1
      clear H1
      by_cases c18 : t221 = true
      ·subst c18
       have H1 : ((backfillref11_within.f a0_6 1 1048576).bind fun t222 => (if t222 = true then ((backfillref11_within.f a0_7 1 1073741824).bind fun t223 => (some t223)) else (some false))) = some r := by rw [if_pos rfl] at H; exact H
       clear H
       have H := H1
       clear H1; replace H := Option.bind_eq_some_iff.mp H; obtain ⟨t222, A190, H⟩ := H; replace H : (if t222 = true then ((backfillref11_within.f a0_7 1 1073741824).bind fun t223 => (some t223)) else (some false)) = some r := H; have A19 := Aside0.mk A190; clear A190
       by_cases c20 : t222 = true
       ·subst c20
        have H1 : ((backfillref11_within.f a0_7 1 1073741824).bind fun t223 => (some t223)) = some r := by rw [if_pos rfl] at H; exact H
        clear H
        have H := H1
        clear H1; replace H := Option.bind_eq_some_iff.mp H; obtain ⟨t223, A210, H⟩ := H; replace H : (some t223) = some r := H; have A21 := Aside0.mk A210; clear A210
        obtain rfl := Option.some.inj H
        have hcz22_0 : wc.cell? ⟨gb215, 0, none⟩ = some (.int .i64 a0_0) := (blk_cell BK215.out 0).trans rfl
        have hcz22_1 : wc.cell? ⟨gb215, 1, none⟩ = some (.int .i64 a0_1) := (blk_cell BK215.out 1).trans rfl
        have hcz22_2 : wc.cell? ⟨gb215, 2, none⟩ = some (.int .i64 a0_2) := (blk_cell BK215.out 2).trans rfl
        have hcz22_3 : wc.cell? ⟨gb215, 3, none⟩ = some (.int .i64 a0_3) := (blk_cell BK215.out 3).trans rfl
        have hcz22_4 : wc.cell? ⟨gb215, 4, none⟩ = some (.int .i64 a0_4) := (blk_cell BK215.out 4).trans rfl
        have hcz22_5 : wc.cell? ⟨gb215, 5, none⟩ = some (.int .i64 a0_5) := (blk_cell BK215.out 5).trans rfl
        have hcz22_6 : wc.cell? ⟨gb215, 6, none⟩ = some (.int .i64 a0_6) := (blk_cell BK215.out 6).trans rfl
        have hcz22_7 : wc.cell? ⟨gb215, 7, none⟩ = some (.int .i64 a0_7) := (blk_cell BK215.out 7).trans rfl
        have hfz22_0 := blk_frozen BK215.out 0
        have hfz22_1 := blk_frozen BK215.out 1
        have hfz22_2 := blk_frozen BK215.out 2
        have hfz22_3 := blk_frozen BK215.out 3
        have hfz22_4 := blk_frozen BK215.out 4
        have hfz22_5 := blk_frozen BK215.out 5
        have hfz22_6 := blk_frozen BK215.out 6
        have hfz22_7 := blk_frozen BK215.out 7
        go_wp2_with (first | ((with_reducible refine gate_callee (f := 39) rfl ?_); refine goesL_ (some 20) rfl rfl Try.func39 (by kernel_rfl) rfl #[.int .i64 a0_3, .int .i64 1, .int .i64 1048576] rfl aA ?_; (with_reducible refine (backfillref11_within.calls a0_3 1 1048576 true _ A12.out).mono ?_); rintro e w' ⟨rfl, ⟨nd, rfl⟩⟩; refine ⟨_, rfl, ?_⟩) | (go_at_call 39; (with_reducible refine (backfillref11_within.calls a0_4 0 1048576 true _ A14.out).mono ?_); rintro e w' ⟨rfl, ⟨nd, rfl⟩⟩) | (go_at_call 39; (with_reducible refine (backfillref11_within.calls a0_5 0 1048576 true _ A16.out).mono ?_); rintro e w' ⟨rfl, ⟨nd, rfl⟩⟩) | (go_at_call 39; (with_reducible refine (backfillref11_within.calls a0_6 1 1048576 true _ A19.out).mono ?_); rintro e w' ⟨rfl, ⟨nd, rfl⟩⟩) | (go_at_call 39; (with_reducible refine (backfillref11_within.calls a0_7 1 1073741824 t223 _ A21.out).mono ?_); rintro e w' ⟨rfl, ⟨nd, rfl⟩⟩))
        go_ret
        exact ⟨by first | rfl | (simp [errW_none, errW_some] <;> rfl) | (simp [*, errW_none, errW_some] <;> rfl), bA⟩
       ·replace c20 := Bool.eq_false_iff.mpr c20
        subst c20
        have H1 : (some false) = some r := by rw [if_neg (show ¬ (false = true) by decide)] at H; exact H
        clear H
        have H := H1
        clear H1
        obtain rfl := Option.some.inj H
        have hcz23_0 : wc.cell? ⟨gb215, 0, none⟩ = some (.int .i64 a0_0) := (blk_cell BK215.out 0).trans rfl
        have hcz23_1 : wc.cell? ⟨gb215, 1, none⟩ = some (.int .i64 a0_1) := (blk_cell BK215.out 1).trans rfl
        have hcz23_2 : wc.cell? ⟨gb215, 2, none⟩ = some (.int .i64 a0_2) := (blk_cell BK215.out 2).trans rfl
        have hcz23_3 : wc.cell? ⟨gb215, 3, none⟩ = some (.int .i64 a0_3) := (blk_cell BK215.out 3).trans rfl
        have hcz23_4 : wc.cell? ⟨gb215, 4, none⟩ = some (.int .i64 a0_4) := (blk_cell BK215.out 4).trans rfl
        have hcz23_5 : wc.cell? ⟨gb215, 5, none⟩ = some (.int .i64 a0_5) := (blk_cell BK215.out 5).trans rfl
        have hcz23_6 : wc.cell? ⟨gb215, 6, none⟩ = some (.int .i64 a0_6) := (blk_cell BK215.out 6).trans rfl
        have hcz23_7 : wc.cell? ⟨gb215, 7, none⟩ = some (.int .i64 a0_7) := (blk_cell BK215.out 7).trans rfl
        have hfz23_0 := blk_frozen BK215.out 0
        have hfz23_1 := blk_frozen BK215.out 1
        have hfz23_2 := blk_frozen BK215.out 2
        have hfz23_3 := blk_frozen BK215.out 3
        have hfz23_4 := blk_frozen BK215.out 4
        have hfz23_5 := blk_frozen BK215.out 5
        have hfz23_6 := blk_frozen BK215.out 6
        have hfz23_7 := blk_frozen BK215.out 7
        go_wp2_with (first | ((with_reducible refine gate_callee (f := 39) rfl ?_); refine goesL_ (some 20) rfl rfl Try.func39 (by kernel_rfl) rfl #[.int .i64 a0_3, .int .i64 1, .int .i64 1048576] rfl aA ?_; (with_reducible refine (backfillref11_within.calls a0_3 1 1048576 true _ A12.out).mono ?_); rintro e w' ⟨rfl, ⟨nd, rfl⟩⟩; refine ⟨_, rfl, ?_⟩) | (go_at_call 39; (with_reducible refine (backfillref11_within.calls a0_4 0 1048576 true _ A14.out).mono ?_); rintro e w' ⟨rfl, ⟨nd, rfl⟩⟩) | (go_at_call 39; (with_reducible refine (backfillref11_within.calls a0_5 0 1048576 true _ A16.out).mono ?_); rintro e w' ⟨rfl, ⟨nd, rfl⟩⟩) | (go_at_call 39; (with_reducible refine (backfillref11_within.calls a0_6 1 1048576 false _ A19.out).mono ?_); rintro e w' ⟨rfl, ⟨nd, rfl⟩⟩))
        go_ret
        exact ⟨by first | rfl | (simp [errW_none, errW_some] <;> rfl) | (simp [*, errW_none, errW_some] <;> rfl), bA⟩
      ·replace c18 := Bool.eq_false_iff.mpr c18
       subst c18
       have H1 : (some false) = some r := by rw [if_neg (show ¬ (false = true) by decide)] at H; exact H
       clear H
       have H := H1
       clear H1
       obtain rfl := Option.some.inj H
       have hcz24_0 : wc.cell? ⟨gb215, 0, none⟩ = some (.int .i64 a0_0) := (blk_cell BK215.out 0).trans rfl
       have hcz24_1 : wc.cell? ⟨gb215, 1, none⟩ = some (.int .i64 a0_1) := (blk_cell BK215.out 1).trans rfl
       have hcz24_2 : wc.cell? ⟨gb215, 2, none⟩ = some (.int .i64 a0_2) := (blk_cell BK215.out 2).trans rfl
       have hcz24_3 : wc.cell? ⟨gb215, 3, none⟩ = some (.int .i64 a0_3) := (blk_cell BK215.out 3).trans rfl
       have hcz24_4 : wc.cell? ⟨gb215, 4, none⟩ = some (.int .i64 a0_4) := (blk_cell BK215.out 4).trans rfl
       have hcz24_5 : wc.cell? ⟨gb215, 5, none⟩ = some (.int .i64 a0_5) := (blk_cell BK215.out 5).trans rfl
       have hcz24_6 : wc.cell? ⟨gb215, 6, none⟩ = some (.int .i64 a0_6) := (blk_cell BK215.out 6).trans rfl
       have hcz24_7 : wc.cell? ⟨gb215, 7, none⟩ = some (.int .i64 a0_7) := (blk_cell BK215.out 7).trans rfl
       have hfz24_0 := blk_frozen BK215.out 0
       have hfz24_1 := blk_frozen BK215.out 1
       have hfz24_2 := blk_frozen BK215.out 2
       have hfz24_3 := blk_frozen BK215.out 3
       have hfz24_4 := blk_frozen BK215.out 4
       have hfz24_5 := blk_frozen BK215.out 5
       have hfz24_6 := blk_frozen BK215.out 6
       have hfz24_7 := blk_frozen BK215.out 7
       go_wp2_with (first | ((with_reducible refine gate_callee (f := 39) rfl ?_); refine goesL_ (some 20) rfl rfl Try.func39 (by kernel_rfl) rfl #[.int .i64 a0_3, .int .i64 1, .int .i64 1048576] rfl aA ?_; (with_reducible refine (backfillref11_within.calls a0_3 1 1048576 true _ A12.out).mono ?_); rintro e w' ⟨rfl, ⟨nd, rfl⟩⟩; refine ⟨_, rfl, ?_⟩) | (go_at_call 39; (with_reducible refine (backfillref11_within.calls a0_4 0 1048576 true _ A14.out).mono ?_); rintro e w' ⟨rfl, ⟨nd, rfl⟩⟩) | (go_at_call 39; (with_reducible refine (backfillref11_within.calls a0_5 0 1048576 false _ A16.out).mono ?_); rintro e w' ⟨rfl, ⟨nd, rfl⟩⟩))
       go_ret
       exact ⟨by first | rfl | (simp [errW_none, errW_some] <;> rfl) | (simp [*, errW_none, errW_some] <;> rfl), bA⟩
     ·replace c17 := Bool.eq_false_iff.mpr c17
      subst c17
      have H1 : (some false) = some r := by rw [if_neg (show ¬ (false = true) by decide)] at H; exact H
      clear H
      have H := H1
      clear H1
      obtain rfl := Option.some.inj H
      have hcz25_0 : wc.cell? ⟨gb215, 0, none⟩ = some (.int .i64 a0_0) := (blk_cell BK215.out 0).trans rfl
      have hcz25_1 : wc.cell? ⟨gb215, 1, none⟩ = some (.int .i64 a0_1) := (blk_cell BK215.out 1).trans rfl
      have hcz25_2 : wc.cell? ⟨gb215, 2, none⟩ = some (.int .i64 a0_2) := (blk_cell BK215.out 2).trans rfl
      have hcz25_3 : wc.cell? ⟨gb215, 3, none⟩ = some (.int .i64 a0_3) := (blk_cell BK215.out 3).trans rfl
      have hcz25_4 : wc.cell? ⟨gb215, 4, none⟩ = some (.int .i64 a0_4) := (blk_cell BK215.out 4).trans rfl
      have hcz25_5 : wc.cell? ⟨gb215, 5, none⟩ = some (.int .i64 a0_5) := (blk_cell BK215.out 5).trans rfl
      have hcz25_6 : wc.cell? ⟨gb215, 6, none⟩ = some (.int .i64 a0_6) := (blk_cell BK215.out 6).trans rfl
      have hcz25_7 : wc.cell? ⟨gb215, 7, none⟩ = some (.int .i64 a0_7) := (blk_cell BK215.out 7).trans rfl
      have hfz25_0 := blk_frozen BK215.out 0
      have hfz25_1 := blk_frozen BK215.out 1
      have hfz25_2 := blk_frozen BK215.out 2
      have hfz25_3 := blk_frozen BK215.out 3
      have hfz25_4 := blk_frozen BK215.out 4
      have hfz25_5 := blk_frozen BK215.out 5
      have hfz25_6 := blk_frozen BK215.out 6
      have hfz25_7 := blk_frozen BK215.out 7
      go_wp2_with (first | ((with_reducible refine gate_callee (f := 39) rfl ?_); refine goesL_ (some 20) rfl rfl Try.func39 (by kernel_rfl) rfl #[.int .i64 a0_3, .int .i64 1, .int .i64 1048576] rfl aA ?_; (with_reducible refine (backfillref11_within.calls a0_3 1 1048576 true _ A12.out).mono ?_); rintro e w' ⟨rfl, ⟨nd, rfl⟩⟩; refine ⟨_, rfl, ?_⟩) | (go_at_call 39; (with_reducible refine (backfillref11_within.calls a0_4 0 1048576 true _ A14.out).mono ?_); rintro e w' ⟨rfl, ⟨nd, rfl⟩⟩) | (go_at_call 39; (with_reducible refine (backfillref11_within.calls a0_5 0 1048576 t221 _ A16.out).mono ?_); rintro e w' ⟨rfl, ⟨nd, rfl⟩⟩))
      go_ret
      exact ⟨by first | rfl | (simp [errW_none, errW_some] <;> rfl) | (simp [*, errW_none, errW_some] <;> rfl), bA⟩
    ·replace c15 := Bool.eq_false_iff.mpr c15
     subst c15
     have H1 : (if x3_1 = true then (some false) else (some false)) = some r := by rw [if_neg (show ¬ (false = true) by decide)] at H; exact H
     clear H
     have H := H1
     clear H1
     by_cases c26 : x3_1 = true
     ·subst c26
      have H1 : (some false) = some r := by rw [if_pos rfl] at H; exact H
      clear H
      have H := H1
      clear H1
      obtain rfl := Option.some.inj H
      have hcz27_0 : wc.cell? ⟨gb215, 0, none⟩ = some (.int .i64 a0_0) := (blk_cell BK215.out 0).trans rfl
      have hcz27_1 : wc.cell? ⟨gb215, 1, none⟩ = some (.int .i64 a0_1) := (blk_cell BK215.out 1).trans rfl
      have hcz27_2 : wc.cell? ⟨gb215, 2, none⟩ = some (.int .i64 a0_2) := (blk_cell BK215.out 2).trans rfl
      have hcz27_3 : wc.cell? ⟨gb215, 3, none⟩ = some (.int .i64 a0_3) := (blk_cell BK215.out 3).trans rfl
      have hcz27_4 : wc.cell? ⟨gb215, 4, none⟩ = some (.int .i64 a0_4) := (blk_cell BK215.out 4).trans rfl
      have hcz27_5 : wc.cell? ⟨gb215, 5, none⟩ = some (.int .i64 a0_5) := (blk_cell BK215.out 5).trans rfl
      have hcz27_6 : wc.cell? ⟨gb215, 6, none⟩ = some (.int .i64 a0_6) := (blk_cell BK215.out 6).trans rfl
      have hcz27_7 : wc.cell? ⟨gb215, 7, none⟩ = some (.int .i64 a0_7) := (blk_cell BK215.out 7).trans rfl
      have hfz27_0 := blk_frozen BK215.out 0
      have hfz27_1 := blk_frozen BK215.out 1
      have hfz27_2 := blk_frozen BK215.out 2
      have hfz27_3 := blk_frozen BK215.out 3
      have hfz27_4 := blk_frozen BK215.out 4
      have hfz27_5 := blk_frozen BK215.out 5
      have hfz27_6 := blk_frozen BK215.out 6
      have hfz27_7 := blk_frozen BK215.out 7
      go_wp2_with (first | ((with_reducible refine gate_callee (f := 39) rfl ?_); refine goesL_ (some 20) rfl rfl Try.func39 (by kernel_rfl) rfl #[.int .i64 a0_3, .int .i64 1, .int .i64 1048576] rfl aA ?_; (with_reducible refine (backfillref11_within.calls a0_3 1 1048576 true _ A12.out).mono ?_); rintro e w' ⟨rfl, ⟨nd, rfl⟩⟩; refine ⟨_, rfl, ?_⟩) | (go_at_call 39; (with_reducible refine (backfillref11_within.calls a0_4 0 1048576 false _ A14.out).mono ?_); rintro e w' ⟨rfl, ⟨nd, rfl⟩⟩))
      go_ret
      exact ⟨by first | rfl | (simp [errW_none, errW_some] <;> rfl) | (simp [*, errW_none, errW_some] <;> rfl), bA⟩
     ·replace c26 := Bool.eq_false_iff.mpr c26
      subst c26
      have H1 : (some false) = some r := by rw [if_neg (show ¬ (false = true) by decide)] at H; exact H
      clear H
      have H := H1
      clear H1
      obtain rfl := Option.some.inj H
      have hcz28_0 : wc.cell? ⟨gb215, 0, none⟩ = some (.int .i64 a0_0) := (blk_cell BK215.out 0).trans rfl
      have hcz28_1 : wc.cell? ⟨gb215, 1, none⟩ = some (.int .i64 a0_1) := (blk_cell BK215.out 1).trans rfl
      have hcz28_2 : wc.cell? ⟨gb215, 2, none⟩ = some (.int .i64 a0_2) := (blk_cell BK215.out 2).trans rfl
      have hcz28_3 : wc.cell? ⟨gb215, 3, none⟩ = some (.int .i64 a0_3) := (blk_cell BK215.out 3).trans rfl
      have hcz28_4 : wc.cell? ⟨gb215, 4, none⟩ = some (.int .i64 a0_4) := (blk_cell BK215.out 4).trans rfl
      have hcz28_5 : wc.cell? ⟨gb215, 5, none⟩ = some (.int .i64 a0_5) := (blk_cell BK215.out 5).trans rfl
      have hcz28_6 : wc.cell? ⟨gb215, 6, none⟩ = some (.int .i64 a0_6) := (blk_cell BK215.out 6).trans rfl
      have hcz28_7 : wc.cell? ⟨gb215, 7, none⟩ = some (.int .i64 a0_7) := (blk_cell BK215.out 7).trans rfl
      have hfz28_0 := blk_frozen BK215.out 0
      have hfz28_1 := blk_frozen BK215.out 1
      have hfz28_2 := blk_frozen BK215.out 2
      have hfz28_3 := blk_frozen BK215.out 3
      have hfz28_4 := blk_frozen BK215.out 4
      have hfz28_5 := blk_frozen BK215.out 5
      have hfz28_6 := blk_frozen BK215.out 6
      have hfz28_7 := blk_frozen BK215.out 7
      go_wp2_with (first | ((with_reducible refine gate_callee (f := 39) rfl ?_); refine goesL_ (some 20) rfl rfl Try.func39 (by kernel_rfl) rfl #[.int .i64 a0_3, .int .i64 1, .int .i64 1048576] rfl aA ?_; (with_reducible refine (backfillref11_within.calls a0_3 1 1048576 true _ A12.out).mono ?_); rintro e w' ⟨rfl, ⟨nd, rfl⟩⟩; refine ⟨_, rfl, ?_⟩) | (go_at_call 39; (with_reducible refine (backfillref11_within.calls a0_4 0 1048576 false _ A14.out).mono ?_); rintro e w' ⟨rfl, ⟨nd, rfl⟩⟩))
      go_ret
      exact ⟨by first | rfl | (simp [errW_none, errW_some] <;> rfl) | (simp [*, errW_none, errW_some] <;> rfl), bA⟩
   ·replace c13 := Bool.eq_false_iff.mpr c13
    subst c13
    have H1 : (if x3_1 = true then (some false) else (some false)) = some r := by rw [if_neg (show ¬ (false = true) by decide)] at H; exact H
    clear H
    have H := H1
    clear H1
    by_cases c29 : x3_1 = true
    ·subst c29
     have H1 : (some false) = some r := by rw [if_pos rfl] at H; exact H
     clear H
     have H := H1
     clear H1
     obtain rfl := Option.some.inj H
     have hcz30_0 : wc.cell? ⟨gb215, 0, none⟩ = some (.int .i64 a0_0) := (blk_cell BK215.out 0).trans rfl
     have hcz30_1 : wc.cell? ⟨gb215, 1, none⟩ = some (.int .i64 a0_1) := (blk_cell BK215.out 1).trans rfl
     have hcz30_2 : wc.cell? ⟨gb215, 2, none⟩ = some (.int .i64 a0_2) := (blk_cell BK215.out 2).trans rfl
     have hcz30_3 : wc.cell? ⟨gb215, 3, none⟩ = some (.int .i64 a0_3) := (blk_cell BK215.out 3).trans rfl
     have hcz30_4 : wc.cell? ⟨gb215, 4, none⟩ = some (.int .i64 a0_4) := (blk_cell BK215.out 4).trans rfl
     have hcz30_5 : wc.cell? ⟨gb215, 5, none⟩ = some (.int .i64 a0_5) := (blk_cell BK215.out 5).trans rfl
     have hcz30_6 : wc.cell? ⟨gb215, 6, none⟩ = some (.int .i64 a0_6) := (blk_cell BK215.out 6).trans rfl
     have hcz30_7 : wc.cell? ⟨gb215, 7, none⟩ = some (.int .i64 a0_7) := (blk_cell BK215.out 7).trans rfl
     have hfz30_0 := blk_frozen BK215.out 0
     have hfz30_1 := blk_frozen BK215.out 1
     have hfz30_2 := blk_frozen BK215.out 2
     have hfz30_3 := blk_frozen BK215.out 3
     have hfz30_4 := blk_frozen BK215.out 4
     have hfz30_5 := blk_frozen BK215.out 5
     have hfz30_6 := blk_frozen BK215.out 6
     have hfz30_7 := blk_frozen BK215.out 7
     go_wp2_with (first | ((with_reducible refine gate_callee (f := 39) rfl ?_); refine goesL_ (some 20) rfl rfl Try.func39 (by kernel_rfl) rfl #[.int .i64 a0_3, .int .i64 1, .int .i64 1048576] rfl aA ?_; (with_reducible refine (backfillref11_within.calls a0_3 1 1048576 false _ A12.out).mono ?_); rintro e w' ⟨rfl, ⟨nd, rfl⟩⟩; refine ⟨_, rfl, ?_⟩))
     go_ret
     exact ⟨by first | rfl | (simp [errW_none, errW_some] <;> rfl) | (simp [*, errW_none, errW_some] <;> rfl), bA⟩
    ·replace c29 := Bool.eq_false_iff.mpr c29
     subst c29
     have H1 : (some false) = some r := by rw [if_neg (show ¬ (false = true) by decide)] at H; exact H
     clear H
     have H := H1
     clear H1
     obtain rfl := Option.some.inj H
     have hcz31_0 : wc.cell? ⟨gb215, 0, none⟩ = some (.int .i64 a0_0) := (blk_cell BK215.out 0).trans rfl
     have hcz31_1 : wc.cell? ⟨gb215, 1, none⟩ = some (.int .i64 a0_1) := (blk_cell BK215.out 1).trans rfl
     have hcz31_2 : wc.cell? ⟨gb215, 2, none⟩ = some (.int .i64 a0_2) := (blk_cell BK215.out 2).trans rfl
     have hcz31_3 : wc.cell? ⟨gb215, 3, none⟩ = some (.int .i64 a0_3) := (blk_cell BK215.out 3).trans rfl
     have hcz31_4 : wc.cell? ⟨gb215, 4, none⟩ = some (.int .i64 a0_4) := (blk_cell BK215.out 4).trans rfl
     have hcz31_5 : wc.cell? ⟨gb215, 5, none⟩ = some (.int .i64 a0_5) := (blk_cell BK215.out 5).trans rfl
     have hcz31_6 : wc.cell? ⟨gb215, 6, none⟩ = some (.int .i64 a0_6) := (blk_cell BK215.out 6).trans rfl
     have hcz31_7 : wc.cell? ⟨gb215, 7, none⟩ = some (.int .i64 a0_7) := (blk_cell BK215.out 7).trans rfl
     have hfz31_0 := blk_frozen BK215.out 0
     have hfz31_1 := blk_frozen BK215.out 1
     have hfz31_2 := blk_frozen BK215.out 2
     have hfz31_3 := blk_frozen BK215.out 3
     have hfz31_4 := blk_frozen BK215.out 4
     have hfz31_5 := blk_frozen BK215.out 5
     have hfz31_6 := blk_frozen BK215.out 6
     have hfz31_7 := blk_frozen BK215.out 7
     go_wp2_with (first | ((with_reducible refine gate_callee (f := 39) rfl ?_); refine goesL_ (some 20) rfl rfl Try.func39 (by kernel_rfl) rfl #[.int .i64 a0_3, .int .i64 1, .int .i64 1048576] rfl aA ?_; (with_reducible refine (backfillref11_within.calls a0_3 1 1048576 false _ A12.out).mono ?_); rintro e w' ⟨rfl, ⟨nd, rfl⟩⟩; refine ⟨_, rfl, ?_⟩))
     go_ret
     exact ⟨by first | rfl | (simp [errW_none, errW_some] <;> rfl) | (simp [*, errW_none, errW_some] <;> rfl), bA⟩

/-! ### backfillref11_C: function 40 -/
def backfillref11_C.f (a0_0 : Int) (a0_1 : Int) (a0_2 : Int) (a0_3 : Int) (a0_4 : Int) (a0_5 : Int) (a0_6 : Int) (a0_7 : Int) : Option (Int) := some (wrap64 (a0_0 * a0_6))
set_option maxHeartbeats 8000000 in
set_option maxRecDepth 100000 in
theorem backfillref11_C.calls (a0_0 : Int) (a0_1 : Int) (a0_2 : Int) (a0_3 : Int) (a0_4 : Int) (a0_5 : Int) (a0_6 : Int) (a0_7 : Int) (r : Int) (w : World) (h : backfillref11_C.f a0_0 a0_1 a0_2 a0_3 a0_4 a0_5 a0_6 a0_7 = some r) :
  Calls Try.prog 40 #[.agg #[.int .i64 a0_0, .int .i64 a0_1, .int .i64 a0_2, .int .i64 a0_3, .int .i64 a0_4, .int .i64 a0_5, .int .i64 a0_6, .int .i64 a0_7]] w fun e w' => e = .returned (.int .i64 r) ∧ Below w.heap.size w w' := by
 have hu31 := Try.underlying31
 have HB := Aside0.mk (Below.refl w.heap.size w)
 have H : (some (wrap64 (a0_0 * a0_6))) = some r := h
 clear h
 obtain rfl := Option.some.inj H
 go_enter Try.func40, Try.ntmps40
 go_wp2_with (first | ((with_reducible refine gate_dst (N := 1) rfl ?_); refine bxA 1 #[.int .i64 a0_0, .int .i64 a0_1, .int .i64 a0_2, .int .i64 a0_3, .int .i64 a0_4, .int .i64 a0_5, .int .i64 a0_6, .int .i64 a0_7] 31 ?_; intro gb224 hg w2 hbox hb; have n0_ := Aside0.mk (below_step bA hb); have n1_ := Aside0.mk (hbox); have n2_ := Aside0.mk (gwA hg bA); have n3_ := Aside0.mk (gwA hg bA); clear HB; have HB := n0_; have BK224 := n1_; have GW224 := n2_; have GE224 := n3_; clear n0_ n1_ n2_ n3_ hb hbox hg; have hcz3_0 : w2.cell? ⟨gb224, 0, none⟩ = some (.int .i64 a0_0) := (blk_cell BK224.out 0).trans rfl; have hcz3_1 : w2.cell? ⟨gb224, 1, none⟩ = some (.int .i64 a0_1) := (blk_cell BK224.out 1).trans rfl; have hcz3_2 : w2.cell? ⟨gb224, 2, none⟩ = some (.int .i64 a0_2) := (blk_cell BK224.out 2).trans rfl; have hcz3_3 : w2.cell? ⟨gb224, 3, none⟩ = some (.int .i64 a0_3) := (blk_cell BK224.out 3).trans rfl; have hcz3_4 : w2.cell? ⟨gb224, 4, none⟩ = some (.int .i64 a0_4) := (blk_cell BK224.out 4).trans rfl; have hcz3_5 : w2.cell? ⟨gb224, 5, none⟩ = some (.int .i64 a0_5) := (blk_cell BK224.out 5).trans rfl; have hcz3_6 : w2.cell? ⟨gb224, 6, none⟩ = some (.int .i64 a0_6) := (blk_cell BK224.out 6).trans rfl; have hcz3_7 : w2.cell? ⟨gb224, 7, none⟩ = some (.int .i64 a0_7) := (blk_cell BK224.out 7).trans rfl; have hfz3_0 := blk_frozen BK224.out 0; have hfz3_1 := blk_frozen BK224.out 1; have hfz3_2 := blk_frozen BK224.out 2; have hfz3_3 := blk_frozen BK224.out 3; have hfz3_4 := blk_frozen BK224.out 4; have hfz3_5 := blk_frozen BK224.out 5; have hfz3_6 := blk_frozen BK224.out 6; have hfz3_7 := blk_frozen BK224.out 7))
 go_ret
 exact ⟨by first | rfl | (simp [errW_none, errW_some] <;> rfl) | (simp [*, errW_none, errW_some] <;> rfl), bA⟩

/-! ### backfillref10_Exponent: function 55 -/
def backfillref10_Exponent.f (a0 : Int) (a1 : Int) : Option (Int) := if (IntKind.u64.wrap (a1)) = 0 then (none) else (some (IntKind.u64.wrap (Int.tdiv (IntKind.u64.wrap ((IntKind.u64.wrap (a0)) * 4294967296)) (IntKind.u64.wrap (a1)))))
set_option maxHeartbeats 8000000 in
set_option maxRecDepth 100000 in
theorem backfillref10_Exponent.calls (a0 : Int) (a1 : Int) (r : Int) (w : World) (h : backfillref10_Exponent.f a0 a1 = some r) :
  Calls Try.prog 55 #[.int .i64 a0, .int .i64 a1] w fun e w' => e = .returned (.int .u64 r) ∧ Drawn0 w w' := by
 have H : (if (IntKind.u64.wrap (a1)) = 0 then (none) else (some (IntKind.u64.wrap (Int.tdiv (IntKind.u64.wrap ((IntKind.u64.wrap (a0)) * 4294967296)) (IntKind.u64.wrap (a1)))))) = some r := h
 clear h
 by_cases c3 : (IntKind.u64.wrap (a1)) = 0
 ·rw [if_pos c3] at H
  exact absurd H (by simp)
 ·rw [if_neg c3] at H
  have c3b0 : ((IntKind.u64.wrap (a1)) == 0) = false := beq_eq_false_iff_ne.mpr c3
  have c3b1 : ((IntKind.u64.wrap (a1)) != 0) = true := bne_iff_ne.mpr c3
  obtain rfl := Option.some.inj H
  go_enter Try.func55, Try.ntmps55
  go_wp2
  go_ret
  exact ⟨by first | rfl | (simp; done) | (simp [*]; done), by repeat (first | exact Drawn0.refl _ | apply Drawn0.step)⟩

/-! ### backfillref11_up: function 56 -/
def backfillref11_up.f (a0 : Int) (a1 : Int) : Option (Int) := if a1 = 0 then (none) else (some (wrap64 (Int.tdiv (wrap64 ((wrap64 (a0 + a1)) - 1)) a1)))
set_option maxHeartbeats 8000000 in
set_option maxRecDepth 100000 in
theorem backfillref11_up.calls (a0 : Int) (a1 : Int) (r : Int) (w : World) (h : backfillref11_up.f a0 a1 = some r) :
  Calls Try.prog 56 #[.int .i64 a0, .int .i64 a1] w fun e w' => e = .returned (.int .i64 r) ∧ Drawn0 w w' := by
 have H : (if a1 = 0 then (none) else (some (wrap64 (Int.tdiv (wrap64 ((wrap64 (a0 + a1)) - 1)) a1)))) = some r := h
 clear h
 by_cases c3 : a1 = 0
 ·rw [if_pos c3] at H
  exact absurd H (by simp)
 ·rw [if_neg c3] at H
  have c3b0 : (a1 == 0) = false := beq_eq_false_iff_ne.mpr c3
  have c3b1 : (a1 != 0) = true := bne_iff_ne.mpr c3
  obtain rfl := Option.some.inj H
  go_enter Try.func56, Try.ntmps56
  go_wp2
  go_ret
  exact ⟨by first | rfl | (simp; done) | (simp [*]; done), by repeat (first | exact Drawn0.refl _ | apply Drawn0.step)⟩

end Go.Proofs.Ytodibpddlibneaa.GPT
