/- The document's example at the head of the statements on ledgers, walked: it answers true. Condition: the listed variable holds what the text lays. -/
import Derived.Test.YtgjjfnjnjnbfgaaDoorLH
namespace Go.Proofs.YtgjjfnjnjnbfgaaDoor.L
open Go.RowKit Go.Proofs.YtgjjfnjnjnbfgaaDoorW.PrintWords Go.Proofs.YtgjjfnjnjnbfgaaDoorW.PrintLast Go.Proofs.YtgjjfnjnjnbfgaaDoor.H Go.Proofs.YtgjjfnjnjnbfgaaDoor.Q Go.Proofs.YtgjjfnjnjnbfgaaDoor.GLG
set_option linter.unusedVariables false
set_option linter.unusedSimpArgs false

theorem laid_tn {w w' : World} {F : Nat → Prop} (h : LaidW w) (hg : Tn w w' F) (h0 : ¬ F 0) : LaidW w' := fun j hj => cell_tn (h j hj) hg h0
theorem laid_pos {w : World} (h : LaidW w) : 0 < w.heap.size := World.block_lt_of_cell? w _ (h 0 (by omega))
set_option maxHeartbeats 8000000 in
set_option maxRecDepth 100000 in
theorem shown_calls (w : World) (hL : LaidW w) :
    Calls Tryd.prog 8 #[] w fun e w' => e = .returned (.bool true) ∧ Below w.heap.size w w' := by
  have f1 : checkV 4 8 10 1 0 0 100 100 = 0 := by decide +kernel
  have f2 : factV 100 100 = (4611686018427387904, 0) := by decide +kernel
  have c1 : chargeC 4 2 1 3 = 0 := by decide +kernel
  have l1 : chargeL 4 2 [0, 0] 1 3 = [0, 12884901888] := by decide +kernel
  have c2 : chargeC 4 2 1 4 = 0 := by decide +kernel
  have l2 : chargeL 4 2 [0, 12884901888] 1 4 = [0, 30064771072] := by decide +kernel
  have c3 : chargeC 4 2 2 1 = 120 := by decide +kernel
  have l3 : chargeL 4 2 [0, 30064771072] 2 1 = [0, 30064771072] := by decide +kernel
  have o1 : ownV [0, 30064771072] 1 = 30064771072 := by decide +kernel
  have fd : [0, 30064771072].map (fun x => partV x 4611686018427387904) = [0, 15032385536] := by decide +kernel
  have o2 : ownV [0, 15032385536] 1 = 15032385536 := by decide +kernel
  have s1 : sumV [0, 15032385536] [0, 1, 1] = 30064771072 := by decide +kernel
  have F1 := Aside0.mk f1
  have F2 := Aside0.mk f2
  have C1 := Aside0.mk c1
  have L1 := Aside0.mk l1
  have C2 := Aside0.mk c2
  have L2 := Aside0.mk l2
  have C3 := Aside0.mk c3
  have L3 := Aside0.mk l3
  have O1 := Aside0.mk o1
  have FD := Aside0.mk fd
  have O2 := Aside0.mk o2
  have S1 := Aside0.mk s1
  have HL := Aside0.mk hL
  clear f1 f2 c1 l1 c2 l2 c3 l3 o1 fd o2 s1 hL
  go_enter Tryd.func8, Tryd.ntmps8
  go_wp2_with fail
  refine (backfilllaw12_plain.calls 4 8 10 1 0 0 100 100 w rfl).mono ?_
  rintro e w1 ⟨rfl, hb⟩
  have HB1 := Aside0.mk hb
  clear hb
  have HN := New_ok w1 (laid_below HL.out HB1.out) 4 8 10 1 0 0 100 100 none 0 0 [] F1.out (by omega) (Rd.nil _ _ _) (by simp) (by omega) (by omega) (by rw [F2.out]; exact ⟨by decide, by decide⟩)
  rw [F2.out] at HN
  have HN := Aside0.mk HN
  go_wp2_with fail
  refine (HN.out).mono ?_
  rintro e w2 ⟨g, A, c, rfl, hl, hg⟩
  have HL2 := Aside0.mk hl
  have HB2 := Aside0.mk (HB1.out.trans ((below_of_gb hg).mono HB1.out.size))
  have hsz : w.heap.size ≤ w1.heap.size := HB1.out.size
  clear hl hg HN HB1
  go_wp2_with fail
  refine (Open_calls w2 _ g A 0 c _ _ _ HL2.out (by omega)).mono ?_
  rintro e w3 ⟨A3, c3, rfl, hl, ht, -⟩
  have HL3 := Aside0.mk hl
  have HB3 := Aside0.mk (HB2.out.trans (ht.below HB2.out.size (fun i hi => Nat.le_trans hsz (HL2.out.foot i hi).1)))
  clear hl ht HL2 HB2
  go_wp2_with fail
  refine (Open_calls w3 _ g A3 (0 + 1) c3 _ _ _ HL3.out (by omega)).mono ?_
  rintro e w4 ⟨A4, c4, rfl, hl, ht, -⟩
  have HL4 := Aside0.mk (show LedAt w4 w1.heap.size g A4 2 c4 4 4611686018427387904 [0, 0] from hl)
  have HB4 := Aside0.mk (HB3.out.trans (ht.below HB3.out.size (fun i hi => Nat.le_trans hsz (HL3.out.foot i hi).1)))
  clear hl ht HL3 HB3
  go_wp2_with fail
  refine (Charge_calls w4 _ g A4 2 c4 _ _ _ 1 3 HL4.out (by omega)).mono ?_
  rintro e w5 ⟨rfl, hl, ht⟩
  rw [L1.out] at hl
  rw [C1.out]
  have HL5 := Aside0.mk hl
  have HB5 := Aside0.mk (HB4.out.trans (ht.below HB4.out.size (fun i hi => Nat.le_trans hsz (HL4.out.foot i hi).1)))
  clear hl ht HL4 HB4
  go_wp2_with fail
  refine (Charge_calls w5 _ g A4 2 c4 _ _ _ 1 4 HL5.out (by omega)).mono ?_
  rintro e w6 ⟨rfl, hl, ht⟩
  rw [L2.out] at hl
  rw [C2.out]
  have HL6 := Aside0.mk hl
  have HB6 := Aside0.mk (HB5.out.trans (ht.below HB5.out.size (fun i hi => Nat.le_trans hsz (HL5.out.foot i hi).1)))
  clear hl ht HL5 HB5
  go_wp2_with fail
  refine (Charge_calls w6 _ g A4 2 c4 _ _ _ 2 1 HL6.out (by omega)).mono ?_
  rintro e w7 ⟨rfl, hl, ht⟩
  rw [L3.out] at hl
  rw [C3.out]
  have HL7 := Aside0.mk hl
  have HB7 := Aside0.mk (HB6.out.trans (ht.below HB6.out.size (fun i hi => Nat.le_trans hsz (HL6.out.foot i hi).1)))
  clear hl ht HL6 HB6
  go_wp2_with fail
  refine (Own_calls w7 g A4 2 c4 _ 1 HL7.out.c0 HL7.out.rd).mono ?_
  rintro e w8 ⟨rfl, rfl⟩
  rw [O1.out]
  go_wp2_with fail
  refine (Fade_calls w7 _ g A4 2 c4 _ _ _ HL7.out (by omega)).mono ?_
  rintro e w8 ⟨rfl, hl, ht⟩
  rw [FD.out] at hl
  have HL8 := Aside0.mk hl
  have HB8 := Aside0.mk (HB7.out.trans (ht.below HB7.out.size (fun i hi => Nat.le_trans hsz (HL7.out.foot i hi).1)))
  clear hl ht HL7 HB7
  go_wp2_with fail
  refine (Own_calls w8 g A4 2 c4 _ 1 HL8.out.c0 HL8.out.rd).mono ?_
  rintro e w9 ⟨rfl, rfl⟩
  rw [O2.out]
  have HL8a := Aside0.mk (HL8.out.gb (World.grownBy_alloc w8 (.cells #[.int .i64 0, .int .i64 1, .int .i64 1] 3) none))
  have HR8 := Aside0.mk (show Rd (Ei .i64) (w8.alloc (.cells #[.int .i64 0, .int .i64 1, .int .i64 1] 3)) (some ⟨w8.heap.size, 0, none⟩) 3 [0, 1, 1] from rd_lit (Ei .i64) w8 3 [0, 1, 1] (by simp))
  have HB8a := Aside0.mk (Below.alloc HB8.out HB8.out.size (.cells #[.int .i64 0, .int .i64 1, .int .i64 1] 3))
  clear HL8 HB8
  go_wp2_with fail
  refine (Sum_calls _ _ g A4 2 c4 _ _ _ _ 3 3 _ HL8a.out HR8.out).mono ?_
  rintro e w9 ⟨rfl, hg⟩
  rw [S1.out]
  have HL9 := Aside0.mk (HL8a.out.gb hg)
  have HB9 := Aside0.mk (below_gb HB8a.out hg HB8a.out.size (by simp))
  clear hg HL8a HB8a HR8
  go_wp2_with fail
  refine (Clone_calls w9 _ g A4 2 c4 _ _ _ HL9.out (by omega)).mono ?_
  rintro e w10 ⟨g10, A10, c10, rfl, -, hg⟩
  have HL10 := Aside0.mk (HL9.out.gb hg)
  have HB10 := Aside0.mk (below_gb HB9.out hg HB9.out.size (by simp))
  clear hg HL9 HB9
  go_wp2_with fail
  refine (List_calls w10 _ g A4 2 c4 _ _ _ HL10.out (by omega)).mono ?_
  rintro e w11 ⟨v, rfl, ho, hg⟩
  obtain ⟨A11, c11, rfl, -, -, -⟩ := own_open rfl ho
  have HB11 := Aside0.mk (below_gb HB10.out hg HB10.out.size (by simp))
  clear ho hg HL10 HB10
  go_wp2
  go_ret
  exact ⟨rfl, HB11.out⟩
end Go.Proofs.YtgjjfnjnjnbfgaaDoor.L
