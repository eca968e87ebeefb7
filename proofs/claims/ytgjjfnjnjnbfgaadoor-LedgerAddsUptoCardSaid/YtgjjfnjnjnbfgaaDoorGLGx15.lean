-- Laid by a program of this session (wip/tools/pr.py): contracts and pure functions; Lean checks it.
import Derived.Test.YtgjjfnjnjnbfgaaDoorGLGx0
import Derived.Test.YtgjjfnjnjnbfgaaDoorGLGx11
namespace Go.Proofs.YtgjjfnjnjnbfgaaDoor.GLG
open Go.RowKit Go.Proofs.YtgjjfnjnjnbfgaaDoorW.PrintWords Go.Proofs.YtgjjfnjnjnbfgaaDoorW.PrintLast Go.Proofs.YtgjjfnjnjnbfgaaDoorW.PrintMore
attribute [local go_sem] max2_int min2_int max_two min_two max_three min_three max_four min_four   -- for this text's walks alone
set_option linter.unusedVariables false
set_option linter.unusedSimpArgs false

/-! ### backfillref07_rungs: function 83 -/
def backfillref07_rungs.f  : Option (List Int) := some (([13043817825332782212, 15511800964685064948, 16915738899553466670, 17664662643191237676, 18051468387014017850, 18248035989933441396, 18347121020861646923, 18396865112328554660, 18421787711448657617, 18434261669329232139, 18440501815349552981, 18443622680442407997, 18445183311048607331, 18445963675871538003, 18446353870663572144, 18446548971154807801, 18446646522174239824, 18446695297877410578, 18446719685777359790, 18446731879739425373, 18446737976723480911, 18446741025216264367, 18446742549462845017, 18446743311586182573, 18446743692647863158, 18446743883178706403, 18446743978444128763, 18446744026076840128, 18446744049893195856, 18446744061801373732, 18446744067755462673, 18446744070732507144] : List Int))
set_option maxHeartbeats 8000000 in
set_option maxRecDepth 100000 in
theorem backfillref07_rungs.calls  (r : List Int) (w : World) (h : backfillref07_rungs.f  = some r) :
  Calls Tryd.prog 83 #[] w fun e w' => ∃ v0_ : Value, e = .returned (v0_) ∧ Kd.R (Kd.int .u64) 28 w' w.heap.size (fun _ => True) v0_ r ∧ Below w.heap.size w w' := by
 have HB := Aside0.mk (Below.refl w.heap.size w)
 have H : (some (([13043817825332782212, 15511800964685064948, 16915738899553466670, 17664662643191237676, 18051468387014017850, 18248035989933441396, 18347121020861646923, 18396865112328554660, 18421787711448657617, 18434261669329232139, 18440501815349552981, 18443622680442407997, 18445183311048607331, 18445963675871538003, 18446353870663572144, 18446548971154807801, 18446646522174239824, 18446695297877410578, 18446719685777359790, 18446731879739425373, 18446737976723480911, 18446741025216264367, 18446742549462845017, 18446743311586182573, 18446743692647863158, 18446743883178706403, 18446743978444128763, 18446744026076840128, 18446744049893195856, 18446744061801373732, 18446744067755462673, 18446744070732507144] : List Int))) = some r := h
 clear h
 obtain ⟨y351, hy351⟩ : ∃ y_ : List Int, y_ = (([13043817825332782212, 15511800964685064948, 16915738899553466670, 17664662643191237676, 18051468387014017850, 18248035989933441396, 18347121020861646923, 18396865112328554660, 18421787711448657617, 18434261669329232139, 18440501815349552981, 18443622680442407997, 18445183311048607331, 18445963675871538003, 18446353870663572144, 18446548971154807801, 18446646522174239824, 18446695297877410578, 18446719685777359790, 18446731879739425373, 18446737976723480911, 18446741025216264367, 18446742549462845017, 18446743311586182573, 18446743692647863158, 18446743883178706403, 18446743978444128763, 18446744026076840128, 18446744049893195856, 18446744061801373732, 18446744067755462673, 18446744070732507144] : List Int)) := ⟨_, rfl⟩
 replace H : (some y351) = some r := by first | (rw [hy351]; with_reducible exact H) | (have H2_ := (Option.bind_some _ _).symm.trans H; rw [hy351]; with_reducible exact H2_) | (have H2_ := (Option.bind_some _ _).symm.trans H; with_reducible exact H2_) | with_reducible exact H | (rw [hy351]; exact H) | exact H
 have Ny351 := Aside0.mk hy351
 clear hy351
 obtain rfl := Option.some.inj H
 go_enter Tryd.func83, Tryd.ntmps83
 go_wp2_with (first | ((with_reducible refine gate_dst (N := 1) rfl ?_); refine Kd.R_lit (Kd.int .u64) _ 28 ?hg (N := 1) ?hd (xs := ([13043817825332782212, 15511800964685064948, 16915738899553466670, 17664662643191237676, 18051468387014017850, 18248035989933441396, 18347121020861646923, 18396865112328554660, 18421787711448657617, 18434261669329232139, 18440501815349552981, 18443622680442407997, 18445183311048607331, 18445963675871538003, 18446353870663572144, 18446548971154807801, 18446646522174239824, 18446695297877410578, 18446719685777359790, 18446731879739425373, 18446737976723480911, 18446741025216264367, 18446742549462845017, 18446743311586182573, 18446743692647863158, 18446743883178706403, 18446743978444128763, 18446744026076840128, 18446744049893195856, 18446744061801373732, 18446744067755462673, 18446744070732507144] : List Int)) (inner := [.int .u64 13043817825332782212, .int .u64 15511800964685064948, .int .u64 16915738899553466670, .int .u64 17664662643191237676, .int .u64 18051468387014017850, .int .u64 18248035989933441396, .int .u64 18347121020861646923, .int .u64 18396865112328554660, .int .u64 18421787711448657617, .int .u64 18434261669329232139, .int .u64 18440501815349552981, .int .u64 18443622680442407997, .int .u64 18445183311048607331, .int .u64 18445963675871538003, .int .u64 18446353870663572144, .int .u64 18446548971154807801, .int .u64 18446646522174239824, .int .u64 18446695297877410578, .int .u64 18446719685777359790, .int .u64 18446731879739425373, .int .u64 18446737976723480911, .int .u64 18446741025216264367, .int .u64 18446742549462845017, .int .u64 18446743311586182573, .int .u64 18446743692647863158, .int .u64 18446743883178706403, .int .u64 18446743978444128763, .int .u64 18446744026076840128, .int .u64 18446744049893195856, .int .u64 18446744061801373732, .int .u64 18446744067755462673, .int .u64 18446744070732507144]) (ok := fun _ => True) (okp := fun _ => True) ?hr ?hp (fun _ hk => hk) trivial (Below.refl _ _) (Nat.le_refl _) (by simp) ?_; (case hd => rfl); (case hg => rfl); (case hr => first | (go_simp; done) | (go_simp; rfl)); (case hp => exact (Reps.one (show Kd.M (Kd.int .u64) _ _ _ 13043817825332782212 [.int .u64 13043817825332782212] from rfl) (Reps.one (show Kd.M (Kd.int .u64) _ _ _ 15511800964685064948 [.int .u64 15511800964685064948] from rfl) (Reps.one (show Kd.M (Kd.int .u64) _ _ _ 16915738899553466670 [.int .u64 16915738899553466670] from rfl) (Reps.one (show Kd.M (Kd.int .u64) _ _ _ 17664662643191237676 [.int .u64 17664662643191237676] from rfl) (Reps.one (show Kd.M (Kd.int .u64) _ _ _ 18051468387014017850 [.int .u64 18051468387014017850] from rfl) (Reps.one (show Kd.M (Kd.int .u64) _ _ _ 18248035989933441396 [.int .u64 18248035989933441396] from rfl) (Reps.one (show Kd.M (Kd.int .u64) _ _ _ 18347121020861646923 [.int .u64 18347121020861646923] from rfl) (Reps.one (show Kd.M (Kd.int .u64) _ _ _ 18396865112328554660 [.int .u64 18396865112328554660] from rfl) (Reps.one (show Kd.M (Kd.int .u64) _ _ _ 18421787711448657617 [.int .u64 18421787711448657617] from rfl) (Reps.one (show Kd.M (Kd.int .u64) _ _ _ 18434261669329232139 [.int .u64 18434261669329232139] from rfl) (Reps.one (show Kd.M (Kd.int .u64) _ _ _ 18440501815349552981 [.int .u64 18440501815349552981] from rfl) (Reps.one (show Kd.M (Kd.int .u64) _ _ _ 18443622680442407997 [.int .u64 18443622680442407997] from rfl) (Reps.one (show Kd.M (Kd.int .u64) _ _ _ 18445183311048607331 [.int .u64 18445183311048607331] from rfl) (Reps.one (show Kd.M (Kd.int .u64) _ _ _ 18445963675871538003 [.int .u64 18445963675871538003] from rfl) (Reps.one (show Kd.M (Kd.int .u64) _ _ _ 18446353870663572144 [.int .u64 18446353870663572144] from rfl) (Reps.one (show Kd.M (Kd.int .u64) _ _ _ 18446548971154807801 [.int .u64 18446548971154807801] from rfl) (Reps.one (show Kd.M (Kd.int .u64) _ _ _ 18446646522174239824 [.int .u64 18446646522174239824] from rfl) (Reps.one (show Kd.M (Kd.int .u64) _ _ _ 18446695297877410578 [.int .u64 18446695297877410578] from rfl) (Reps.one (show Kd.M (Kd.int .u64) _ _ _ 18446719685777359790 [.int .u64 18446719685777359790] from rfl) (Reps.one (show Kd.M (Kd.int .u64) _ _ _ 18446731879739425373 [.int .u64 18446731879739425373] from rfl) (Reps.one (show Kd.M (Kd.int .u64) _ _ _ 18446737976723480911 [.int .u64 18446737976723480911] from rfl) (Reps.one (show Kd.M (Kd.int .u64) _ _ _ 18446741025216264367 [.int .u64 18446741025216264367] from rfl) (Reps.one (show Kd.M (Kd.int .u64) _ _ _ 18446742549462845017 [.int .u64 18446742549462845017] from rfl) (Reps.one (show Kd.M (Kd.int .u64) _ _ _ 18446743311586182573 [.int .u64 18446743311586182573] from rfl) (Reps.one (show Kd.M (Kd.int .u64) _ _ _ 18446743692647863158 [.int .u64 18446743692647863158] from rfl) (Reps.one (show Kd.M (Kd.int .u64) _ _ _ 18446743883178706403 [.int .u64 18446743883178706403] from rfl) (Reps.one (show Kd.M (Kd.int .u64) _ _ _ 18446743978444128763 [.int .u64 18446743978444128763] from rfl) (Reps.one (show Kd.M (Kd.int .u64) _ _ _ 18446744026076840128 [.int .u64 18446744026076840128] from rfl) (Reps.one (show Kd.M (Kd.int .u64) _ _ _ 18446744049893195856 [.int .u64 18446744049893195856] from rfl) (Reps.one (show Kd.M (Kd.int .u64) _ _ _ 18446744061801373732 [.int .u64 18446744061801373732] from rfl) (Reps.one (show Kd.M (Kd.int .u64) _ _ _ 18446744067755462673 [.int .u64 18446744067755462673] from rfl) (Reps.one (show Kd.M (Kd.int .u64) _ _ _ 18446744070732507144 [.int .u64 18446744070732507144] from rfl) (Reps.none _ _)))))))))))))))))))))))))))))))))); intro v352 w1 ho2 hb hg_ hnew_; clear hg_ hnew_; (first | rw [← Ny351.out] at ho2 | (simp only [Int.reduceToNat] at ho2; rw [← Ny351.out] at ho2)); have n0_ := Aside0.mk (Kd.R_lower ho2 (below_size bA)); have n1_ := Aside0.mk (below_step bA hb); clear HB; have HO353 := n0_; have HB := n1_; clear n0_ n1_ hb ho2))
 go_ret
 exact ⟨_, by first | rfl | (simp [errW_none, errW_some] <;> rfl) | (simp [*, errW_none, errW_some] <;> rfl), by (with_reducible repeat (first | apply Kd.R_alloc | apply Kd.R_drewN | apply Kd.R_drew)); exact HO353.out, bA⟩

/-! ### backfillref07_Half: function 58 -/
def backfillref07_Half.l0 : Nat → Int → Int → List Int → Int → Int → Option (Int)
 | 0, _, _, _, _, _ => none
 | k + 1, x0, x3, x4, x5, x6 => if x6 ≤ 32 then (if 0 ≤ (wrap64 (32 - x6)) then (if (Go.bits .and .u64 (shr .u64 x0 (wrap64 (32 - x6))) 1) = 1 then (if 0 ≤ (wrap64 (x6 - 1)) then (if (wrap64 (x6 - 1)) < (x4.length : Int) then ((backfillref01_Mul.f x5 (rd x4 (wrap64 (x6 - 1)))).bind fun bt358 => (backfillref07_Half.l0 k x0 x3 x4 bt358.1 (wrap64 (x6 + 1)))) else (none)) else (none)) else (backfillref07_Half.l0 k x0 x3 x4 x5 (wrap64 (x6 + 1)))) else (none)) else (if 0 ≤ x3 then (some (shr .u64 x5 x3)) else (none))
def backfillref07_Half.f (k : Nat) (a0 : Int) : Option (Int) := if (a0 / 4294967296) ≥ 63 then (some 0) else ((backfillref07_rungs.f).bind fun t354 => (backfillref07_Half.l0 k a0 (a0 / 4294967296) t354 9223372036854775808 1))
theorem backfillref07_Half.mono_l : ∀ k, (∀ y0 y1 y2 y3 y4, LeO (backfillref07_Half.l0 k y0 y1 y2 y3 y4) (backfillref07_Half.l0 (k + 1) y0 y1 y2 y3 y4))
 | 0 => fun _ _ _ _ _ r h => by simp [backfillref07_Half.l0] at h
 | k + 1 => by
  have ih0 := backfillref07_Half.mono_l k
  ·intro y0 y1 y2 y3 y4
   unfold backfillref07_Half.l0
   repeat' first
   | (with_reducible exact ih0 _ _ _ _ _)
   | (with_reducible exact LeO.refl _)
   | (with_reducible exact LeO.none _)
   | (with_reducible refine LeO.ite ?_ ?_)
   | (with_reducible refine LeO.bind ?_ (fun _ => ?_))
   | exact ih0 _ _ _ _ _
   | exact LeO.none _
   | refine LeO.ite ?_ ?_
   | refine LeO.bind ?_ (fun _ => ?_)
theorem backfillref07_Half.mono : ∀ a0 k, LeO (backfillref07_Half.f k a0) (backfillref07_Half.f (k + 1) a0) := by
 intro a0 k
 have ih0 := backfillref07_Half.mono_l k
 unfold backfillref07_Half.f
 repeat' first
   | (with_reducible exact ih0 _ _ _ _ _)
   | (with_reducible exact LeO.refl _)
   | (with_reducible exact LeO.none _)
   | (with_reducible refine LeO.ite ?_ ?_)
   | (with_reducible refine LeO.bind ?_ (fun _ => ?_))
   | exact ih0 _ _ _ _ _
   | exact LeO.none _
   | refine LeO.ite ?_ ?_
   | refine LeO.bind ?_ (fun _ => ?_)
set_option maxHeartbeats 8000000 in
set_option maxRecDepth 100000 in
theorem backfillref07_Half.calls (k : Nat) (a0 : Int) (r : Int) (w : World) (h : backfillref07_Half.f k a0 = some r) :
  Calls Tryd.prog 58 #[.int .u64 a0] w fun e w' => e = .returned (.int .u64 r) ∧ Below w.heap.size w w' := by
 have hfd94_0 : ∀ (x0 : Int) (x1 : Int) (W_ : World), (Instr.field 94 (.agg #[(.int .u64 x0), (.int .u64 x1)]) 0).run Tryd.prog W_ = .ok ((.int .u64 x0)) W_ := by intros; kernel_rfl
 have HB := Aside0.mk (Below.refl w.heap.size w)
 have H : (if (a0 / 4294967296) ≥ 63 then (some 0) else ((backfillref07_rungs.f).bind fun t354 => (backfillref07_Half.l0 k a0 (a0 / 4294967296) t354 9223372036854775808 1))) = some r := h
 clear h
 by_cases c2 : (a0 / 4294967296) ≥ 63
 ·rw [if_pos c2] at H
  have c2b0 : decide (63 ≤ (a0 / 4294967296)) = true := decide_eq_true c2
  clear c2
  obtain rfl := Option.some.inj H
  go_enter Tryd.func58, Tryd.ntmps58
  go_wp2
  go_ret
  exact ⟨by first | rfl | (simp [errW_none, errW_some] <;> rfl) | (simp [*, errW_none, errW_some] <;> rfl), bA⟩
 ·rw [if_neg c2] at H
  have c2b0 : decide (63 ≤ (a0 / 4294967296)) = false := decide_eq_false c2
  clear c2; replace H := Option.bind_eq_some_iff.mp H; obtain ⟨t354, A30, H⟩ := H; replace H : (backfillref07_Half.l0 k a0 (a0 / 4294967296) t354 9223372036854775808 1) = some r := H; have A3 := Aside0.mk A30; clear A30
  have H' := Aside0.mk H
  clear H
  go_enter Tryd.func58, Tryd.ntmps58
  go_wp2_with (first | ((with_reducible refine gate_callee (f := 83) rfl ?_); refine goesL_ (some 11) rfl rfl Tryd.func83 (by kernel_rfl) rfl #[] rfl aA ?_; (with_reducible refine (backfillref07_rungs.calls  t354 _ A3.out).mono ?_); rintro e w4 ⟨v355, rfl, ho0, hb⟩; refine ⟨_, rfl, ?_⟩; have n0_ := Aside0.mk (Kd.R_lower ho0 (below_size bA)); have n1_ := Aside0.mk (below_step bA hb); clear HB; have HO356 := n0_; have HB := n1_; clear n0_ n1_; (try clear hb); (try clear ho0)))
  go_loopg [5, 6] k (fun kq v5 v6 w' => ∃ (x5_1 : Int) (x6_1 : Int), v5 = .int .u64 x5_1 ∧ v6 = .int .i64 x6_1 ∧ Aside0 (backfillref07_Half.l0 kq a0 (a0 / 4294967296) t354 x5_1 x6_1 = some r) ∧ Aside0 (kq ≤ k) ∧ Aside0 (Kd.R (Kd.int .u64) 28 w' w.heap.size (fun _ => True) v355 t354) ∧ Aside0 (Below w.heap.size w w'))
  case atStart => exact ⟨(9223372036854775808), (1), (by first | rfl | (simp; done) | (simp [*]; done)), (by first | rfl | (simp; done) | (simp [*]; done)), H', ⟨Nat.le_refl _⟩, ⟨by (with_reducible repeat (first | apply Kd.R_alloc | apply Kd.R_drewN | apply Kd.R_drew)); exact HO356.out⟩, ⟨bA⟩⟩
  case round =>
   clear H'
   try clear c2
   try clear c2b0
   try clear p2
   obtain ⟨x5_1, x6_1, rfl, rfl, HA, HK1, HO_4, HB⟩ := hrel
   cases gk with
   | zero => exact absurd HA.out (by simp [backfillref07_Half.l0])
   | succ k1 =>
    have H := HA.out
    clear HA
    simp only [backfillref07_Half.l0] at H
    by_cases c5 : x6_1 ≤ 32
    ·rw [if_pos c5] at H
     have c5b0 : decide (x6_1 ≤ 32) = true := decide_eq_true c5
     clear c5
     obtain ⟨ji6, hji6⟩ : ∃ j_ : Int, (wrap64 (32 - x6_1)) = j_ := ⟨_, rfl⟩
     replace H : (if 0 ≤ (ji6) then (if (Go.bits .and .u64 (shr .u64 a0 (ji6)) 1) = 1 then (if 0 ≤ (wrap64 (x6_1 - 1)) then (if (wrap64 (x6_1 - 1)) < (t354.length : Int) then ((backfillref01_Mul.f x5_1 (rd t354 (wrap64 (x6_1 - 1)))).bind fun bt358 => (backfillref07_Half.l0 k1 a0 (a0 / 4294967296) t354 bt358.1 (wrap64 (x6_1 + 1)))) else (none)) else (none)) else (backfillref07_Half.l0 k1 a0 (a0 / 4294967296) t354 x5_1 (wrap64 (x6_1 + 1)))) else (none)) = some r := by first | (rw [hji6] at H; exact H) | (simp only [hji6] at H ⊢; exact H)
     have hji6w : (IntKind.i64.wrap (32 - x6_1)) = ji6 := (i64_w _).trans hji6
     by_cases c7 : 0 ≤ (ji6)
     ·rw [if_pos c7] at H
      have c7b0 := eq_true c7
      have c7b1 : decide (0 ≤ (ji6)) = true := decide_eq_true c7
      clear c7
      obtain ⟨ji8, hji8⟩ : ∃ j_ : Int, (shr .u64 a0 (ji6)) = j_ := ⟨_, rfl⟩
      replace H : (if (Go.bits .and .u64 (ji8) 1) = 1 then (if 0 ≤ (wrap64 (x6_1 - 1)) then (if (wrap64 (x6_1 - 1)) < (t354.length : Int) then ((backfillref01_Mul.f x5_1 (rd t354 (wrap64 (x6_1 - 1)))).bind fun bt358 => (backfillref07_Half.l0 k1 a0 (a0 / 4294967296) t354 bt358.1 (wrap64 (x6_1 + 1)))) else (none)) else (none)) else (backfillref07_Half.l0 k1 a0 (a0 / 4294967296) t354 x5_1 (wrap64 (x6_1 + 1)))) = some r := by first | (rw [hji8] at H; exact H) | (simp only [hji8] at H ⊢; exact H)
      have hji8_ : (a0 / 2 ^ min (ji6).toNat 64) = ji8 := hji8
      have hji8z : (ji6) ≤ 64 → (a0 / 2 ^ (ji6).toNat) = ji8 := shr_small hji8
      by_cases c9 : (Go.bits .and .u64 (ji8) 1) = 1
      ·rw [if_pos c9] at H
       have c9b0 : ((Go.bits .and .u64 (ji8) 1) == 1) = true := beq_iff_eq.mpr c9
       have c9b1 : ((Go.bits .and .u64 (ji8) 1) != 1) = false := bne_eq_false_iff_eq.mpr c9
       clear c9
       obtain ⟨ji10, hji10⟩ : ∃ j_ : Int, (wrap64 (x6_1 - 1)) = j_ := ⟨_, rfl⟩
       replace H : (if 0 ≤ (ji10) then (if (ji10) < (t354.length : Int) then ((backfillref01_Mul.f x5_1 (rd t354 (ji10))).bind fun bt358 => (backfillref07_Half.l0 k1 a0 (a0 / 4294967296) t354 bt358.1 (wrap64 (x6_1 + 1)))) else (none)) else (none)) = some r := by first | (rw [hji10] at H; exact H) | (simp only [hji10] at H ⊢; exact H)
       have hji10w : (IntKind.i64.wrap (x6_1 - 1)) = ji10 := (i64_w _).trans hji10
       by_cases c11 : 0 ≤ (ji10)
       ·rw [if_pos c11] at H
        have c11b0 : decide (0 ≤ (ji10)) = true := decide_eq_true c11
        clear c11
        by_cases c12 : (ji10) < (t354.length : Int)
        ·rw [if_pos c12] at H
         have c12b0 : decide ((ji10) < (t354.length : Int)) = true := decide_eq_true c12
         clear c12; replace H := Option.bind_eq_some_iff.mp H; obtain ⟨⟨t358, t359⟩, A130, H⟩ := H; replace H : (backfillref07_Half.l0 k1 a0 (a0 / 4294967296) t354 t358 (wrap64 (x6_1 + 1))) = some r := H; have A13 := Aside0.mk A130; clear A130
         have H' := Aside0.mk H
         clear H
         obtain ⟨Ao14, co14, eo14⟩ := Kd.R_slice HO_4.out
         subst eo14
         have p357 : 0 ≤ ((ji10) : Int) := of_decide_eq_true (by first | (with_reducible assumption) | assumption)
         have q357 : (ji10) < (t354.length : Int) := of_decide_eq_true (by first | (with_reducible assumption) | assumption)
         obtain ⟨ad357, e357, hx357_0⟩ := Kd.at_int (Kd.R_reads' HO_4.out).2.2 (ji10) p357 q357
         cases e357
         replace p357 := eq_true p357
         replace q357 := eq_true q357
         go_wp2_with (first | ((with_reducible refine gate_callee (f := 78) rfl ?_); refine goesL_ (some 28) rfl rfl Tryd.func78 (by kernel_rfl) rfl #[.int .u64 x5_1, .int .u64 (rd t354 (ji10))] rfl (by (try simp only [List.map_toArray, List.map_cons, List.map_nil]); first | done | (simp only [hji10]; rfl) | rfl | (simp only [List.length_drop, List.length_take]; rfl)) ?_; (with_reducible refine (backfillref01_Mul.calls x5_1 (rd t354 (ji10)) t358 t359 _ A13.out).mono ?_); rintro e w15 ⟨rfl, hb⟩; refine ⟨_, rfl, ?_⟩; have n0_ := Aside0.mk (Kd.R_below (by (with_reducible repeat (first | apply Kd.R_alloc | apply Kd.R_drewN | apply Kd.R_drew)); exact HO_4.out) hb); have n1_ := Aside0.mk (below_step bA hb); clear HO_4 HB; have HO_4 := n0_; have HB := n1_; clear n0_ n1_; (try clear hb)))
         go_roundg k1
         case measure => have := HK1.out; omega
         case rel => exact ⟨(t358), (wrap64 (x6_1 + 1)), (by first | rfl | (simp; done) | (simp [*]; done)), (by first | rfl | (simp; done) | (simp [*]; done)), H', ⟨by have := HK1.out; omega⟩, ⟨by (with_reducible repeat (first | apply Kd.R_alloc | apply Kd.R_drewN | apply Kd.R_drew)); exact HO_4.out⟩, ⟨bA⟩⟩
        ·rw [if_neg c12] at H
         exact absurd H (by simp)
       ·rw [if_neg c11] at H
        exact absurd H (by simp)
      ·rw [if_neg c9] at H
       have c9b0 : ((Go.bits .and .u64 (ji8) 1) == 1) = false := beq_eq_false_iff_ne.mpr c9
       have c9b1 : ((Go.bits .and .u64 (ji8) 1) != 1) = true := bne_iff_ne.mpr c9
       have H' := Aside0.mk H
       clear H
       go_wp2
       go_roundg k1
       case measure => have := HK1.out; omega
       case rel => exact ⟨(x5_1), (wrap64 (x6_1 + 1)), (by first | rfl | (simp; done) | (simp [*]; done)), (by first | rfl | (simp; done) | (simp [*]; done)), H', ⟨by have := HK1.out; omega⟩, ⟨by (with_reducible repeat (first | apply Kd.R_alloc | apply Kd.R_drewN | apply Kd.R_drew)); exact HO_4.out⟩, ⟨bA⟩⟩
     ·rw [if_neg c7] at H
      exact absurd H (by simp)
    ·rw [if_neg c5] at H
     have c5b0 : decide (x6_1 ≤ 32) = false := decide_eq_false c5
     clear c5
     obtain ⟨ji16, hji16⟩ : ∃ j_ : Int, (a0 / 4294967296) = j_ := ⟨_, rfl⟩
     replace H : (if 0 ≤ (ji16) then (some (shr .u64 x5_1 (ji16))) else (none)) = some r := by first | (rw [hji16] at H; exact H) | (simp only [hji16] at H ⊢; exact H)
     (try rw [hji16] at c2b0)
     by_cases c17 : 0 ≤ (ji16)
     ·rw [if_pos c17] at H
      have c17b0 := eq_true c17
      have c17b1 : decide (0 ≤ (ji16)) = true := decide_eq_true c17
      clear c17
      obtain ⟨ji18, hji18⟩ : ∃ j_ : Int, (shr .u64 x5_1 (ji16)) = j_ := ⟨_, rfl⟩
      replace H : (some ji18) = some r := by first | (rw [hji18] at H; exact H) | (simp only [hji18] at H ⊢; exact H)
      have hji18_ : (x5_1 / 2 ^ min (ji16).toNat 64) = ji18 := hji18
      have hji18z : (ji16) ≤ 64 → (x5_1 / 2 ^ (ji16).toNat) = ji18 := shr_small hji18
      obtain rfl := Option.some.inj H
      go_wp2
      go_ret
      exact ⟨by first | rfl | (simp [errW_none, errW_some] <;> rfl) | (simp only [← hji16, ← hji18]; first | rfl | (simp [errW_none, errW_some] <;> rfl)) | (simp [*, errW_none, errW_some] <;> rfl), bA⟩
     ·rw [if_neg c17] at H
      exact absurd H (by simp)

/-! ### backfillref10_Factor: function 33 -/
def backfillref10_Factor.j0 : Nat → Int → Int → Bool → Option (Int × Int)
 | 0, _, _, _ => none
 | k + 1, x0, x1, x19 => if x19 = true then (some (0, 100)) else ((backfillref10_Exponent.f x0 x1).bind fun t360 => ((backfillref07_Half.f k t360).bind fun t361 => (some (t361, 0))))
def backfillref10_Factor.f (k : Nat) (a0 : Int) (a1 : Int) : Option (Int × Int) := if a0 < 1 then (backfillref10_Factor.j0 k a0 a1 true) else (if a0 > 1048576 then (backfillref10_Factor.j0 k a0 a1 true) else (if a1 < 1 then (backfillref10_Factor.j0 k a0 a1 true) else (backfillref10_Factor.j0 k a0 a1 (decide (a1 > 1073741824)))))
theorem backfillref10_Factor.mono_l : ∀ k, (∀ y0 y1 y2, LeO (backfillref10_Factor.j0 k y0 y1 y2) (backfillref10_Factor.j0 (k + 1) y0 y1 y2))
 | 0 => fun _ _ _ r h => by simp [backfillref10_Factor.j0] at h
 | k + 1 => by
  have ih0 := backfillref10_Factor.mono_l k
  ·intro y0 y1 y2
   unfold backfillref10_Factor.j0
   repeat' first
   | (with_reducible exact ih0 _ _ _)
   | (with_reducible exact backfillref07_Half.mono _ _)
   | (with_reducible exact LeO.refl _)
   | (with_reducible exact LeO.none _)
   | (with_reducible refine LeO.ite ?_ ?_)
   | (with_reducible refine LeO.bind ?_ (fun _ => ?_))
   | exact ih0 _ _ _
   | exact backfillref07_Half.mono _ _
   | exact LeO.none _
   | refine LeO.ite ?_ ?_
   | refine LeO.bind ?_ (fun _ => ?_)
theorem backfillref10_Factor.mono : ∀ a0 a1 k, LeO (backfillref10_Factor.f k a0 a1) (backfillref10_Factor.f (k + 1) a0 a1) := by
 intro a0 a1 k
 have ih0 := backfillref10_Factor.mono_l k
 unfold backfillref10_Factor.f
 repeat' first
   | (with_reducible exact ih0 _ _ _)
   | (with_reducible exact backfillref07_Half.mono _ _)
   | (with_reducible exact LeO.refl _)
   | (with_reducible exact LeO.none _)
   | (with_reducible refine LeO.ite ?_ ?_)
   | (with_reducible refine LeO.bind ?_ (fun _ => ?_))
   | exact ih0 _ _ _
   | exact backfillref07_Half.mono _ _
   | exact LeO.none _
   | refine LeO.ite ?_ ?_
   | refine LeO.bind ?_ (fun _ => ?_)
set_option maxHeartbeats 8000000 in
set_option maxRecDepth 100000 in
theorem backfillref10_Factor.calls (k : Nat) (a0 : Int) (a1 : Int) (r1 : Int) (r2 : Int) (w : World) (h : backfillref10_Factor.f k a0 a1 = some (r1, r2)) :
  Calls Tryd.prog 33 #[.int .i64 a0, .int .i64 a1] w fun e w' => e = .returned (.tuple #[.int .u64 r1, .int .i64 r2]) ∧ Below w.heap.size w w' := by
 have HB := Aside0.mk (Below.refl w.heap.size w)
 have H : (if a0 < 1 then (backfillref10_Factor.j0 k a0 a1 true) else (if a0 > 1048576 then (backfillref10_Factor.j0 k a0 a1 true) else (if a1 < 1 then (backfillref10_Factor.j0 k a0 a1 true) else (backfillref10_Factor.j0 k a0 a1 (decide (a1 > 1073741824)))))) = some (r1, r2) := h
 clear h
 have HC3 := Aside0.mk H
 clear H
 go_enter Tryd.func33, Tryd.ntmps33
 go_upto_region 1 with (fail)
 go_cut [19] (fun v19 wc => ∃ (kq : Nat) (x19_2 : Bool), v19 = .bool x19_2 ∧ Aside0 (backfillref10_Factor.j0 kq a0 a1 x19_2 = some (r1, r2)) ∧ Aside0 (kq ≤ k) ∧ Aside0 (Below w.heap.size w wc))
 case first =>
  have H := HC3.out
  clear HC3
  by_cases c4 : a0 < 1
  ·rw [if_pos c4] at H
   have c4b0 : decide (a0 < 1) = true := decide_eq_true c4
   clear c4
   (first | rw [c4b0] | (simp only [i64_w, i32_w]; rw [c4b0]) | skip)
   have H' := Aside0.mk H
   clear H
   go_wp2
   go_meet
   case rel => exact ⟨_, (true), (by first | rfl | (simp; done) | (simp [*]; done)), H', ⟨by first | omega | exact Nat.le_refl _⟩, ⟨bA⟩⟩
  ·rw [if_neg c4] at H
   have c4b0 : decide (a0 < 1) = false := decide_eq_false c4
   clear c4
   (first | rw [c4b0] | (simp only [i64_w, i32_w]; rw [c4b0]) | skip)
   by_cases c5 : a0 > 1048576
   ·rw [if_pos c5] at H
    have c5b0 : decide (1048576 < a0) = true := decide_eq_true c5
    clear c5
    have H' := Aside0.mk H
    clear H
    go_wp2
    go_meet
    case rel => exact ⟨_, (true), (by first | rfl | (simp; done) | (simp [*]; done)), H', ⟨by first | omega | exact Nat.le_refl _⟩, ⟨bA⟩⟩
   ·rw [if_neg c5] at H
    have c5b0 : decide (1048576 < a0) = false := decide_eq_false c5
    clear c5
    by_cases c6 : a1 < 1
    ·rw [if_pos c6] at H
     have c6b0 : decide (a1 < 1) = true := decide_eq_true c6
     clear c6
     have H' := Aside0.mk H
     clear H
     go_wp2
     go_meet
     case rel => exact ⟨_, (true), (by first | rfl | (simp; done) | (simp [*]; done)), H', ⟨by first | omega | exact Nat.le_refl _⟩, ⟨bA⟩⟩
    ·rw [if_neg c6] at H
     have c6b0 : decide (a1 < 1) = false := decide_eq_false c6
     clear c6
     have H' := Aside0.mk H
     clear H
     go_wp2
     go_meet
     case rel => exact ⟨_, (decide (a1 > 1073741824)), (by first | rfl | (simp; done) | (simp [*]; done)), H', ⟨by first | omega | exact Nat.le_refl _⟩, ⟨bA⟩⟩
 case rest =>
  clear HC3
  try clear p2
  try clear c3
  try clear c4
  try clear c4b0
  try clear c5
  try clear c5b0
  try clear c6
  try clear c6b0
  obtain ⟨kq, x19_2, rfl, HA, HJ2, HB⟩ := hcut
  cases kq with
  | zero => exact absurd HA.out (by simp [backfillref10_Factor.j0])
  | succ kj2 =>
   have H := HA.out
   clear HA
   simp only [backfillref10_Factor.j0] at H
   by_cases c7 : x19_2 = true
   ·subst c7
    have H1 : (some (0, 100)) = some (r1, r2) := by rw [if_pos rfl] at H; exact H
    clear H
    have H := H1
    clear H1
    simp only [Option.some.injEq, Prod.mk.injEq] at H
    obtain ⟨rfl, rfl⟩ := H
    go_wp2
    go_ret2
    exact ⟨by first | rfl | (simp [errW_none, errW_some] <;> rfl) | (simp [*, errW_none, errW_some] <;> rfl), bA⟩
   ·replace c7 := Bool.eq_false_iff.mpr c7
    subst c7
    have H1 : ((backfillref10_Exponent.f a0 a1).bind fun t360 => ((backfillref07_Half.f kj2 t360).bind fun t361 => (some (t361, 0)))) = some (r1, r2) := by rw [if_neg (show ¬ (false = true) by decide)] at H; exact H
    clear H
    have H := H1
    clear H1; replace H := Option.bind_eq_some_iff.mp H; obtain ⟨t360, A80, H⟩ := H; replace H : ((backfillref07_Half.f kj2 t360).bind fun t361 => (some (t361, 0))) = some (r1, r2) := H; have A8 := Aside0.mk A80; clear A80; replace H := Option.bind_eq_some_iff.mp H; obtain ⟨t361, A90, H⟩ := H; replace H : (some (t361, 0)) = some (r1, r2) := H; have A9 := Aside0.mk A90; clear A90
    simp only [Option.some.injEq, Prod.mk.injEq] at H
    obtain ⟨rfl, rfl⟩ := H
    go_wp2_with (first | ((with_reducible refine gate_callee (f := 59) rfl ?_); refine goesL_ (some 22) rfl rfl Tryd.func59 (by kernel_rfl) rfl #[.int .i64 a0, .int .i64 a1] rfl aA ?_; (with_reducible refine (backfillref10_Exponent.calls a0 a1 t360 _ A8.out).mono ?_); rintro e w' ⟨rfl, ⟨nd, rfl⟩⟩; refine ⟨_, rfl, ?_⟩) | ((with_reducible refine gate_callee (f := 58) rfl ?_); refine goesL_ (some 23) rfl rfl Tryd.func58 (by kernel_rfl) rfl #[.int .u64 t360] rfl aA ?_; (with_reducible refine (backfillref07_Half.calls kj2 t360 t361 _ A9.out).mono ?_); rintro e w10 ⟨rfl, hb⟩; refine ⟨_, rfl, ?_⟩; have n0_ := Aside0.mk (below_step bA hb); clear HB; have HB := n0_; clear n0_; (try clear hb)))
    go_ret2
    exact ⟨by first | rfl | (simp [errW_none, errW_some] <;> rfl) | (simp [*, errW_none, errW_some] <;> rfl), bA⟩

-- NOT PRINTED: function 10 (backfillref12_New)

/-! ### backfilllaw12_usages: function 11 -/
def backfilllaw12_usages.l0 : Nat → List Int → List Int → Int → Int → Option (Bool)
 | 0, _, _, _, _ => none
 | k + 1, x0, x1, x12, x13 => if x13 < x12 then (if 0 ≤ x13 then (if x13 < (x0.length : Int) then (if x13 < (x1.length : Int) then (if (rd x0 x13) = (rd x1 x13) then (backfilllaw12_usages.l0 k x0 x1 x12 (wrap64 (x13 + 1))) else (some false)) else (none)) else (none)) else (none)) else (some true)
def backfilllaw12_usages.f (k : Nat) (l0 : List Int) (l1 : List Int) : Option (Bool) := if (l0.length : Int) = (l1.length : Int) then (backfilllaw12_usages.l0 k l0 l1 (l0.length : Int) 0) else (some false)
theorem backfilllaw12_usages.mono_l : ∀ k, (∀ y0 y1 y2 y3, LeO (backfilllaw12_usages.l0 k y0 y1 y2 y3) (backfilllaw12_usages.l0 (k + 1) y0 y1 y2 y3))
 | 0 => fun _ _ _ _ r h => by simp [backfilllaw12_usages.l0] at h
 | k + 1 => by
  have ih0 := backfilllaw12_usages.mono_l k
  ·intro y0 y1 y2 y3
   unfold backfilllaw12_usages.l0
   repeat' first
   | (with_reducible exact ih0 _ _ _ _)
   | (with_reducible exact LeO.refl _)
   | (with_reducible exact LeO.none _)
   | (with_reducible refine LeO.ite ?_ ?_)
   | (with_reducible refine LeO.bind ?_ (fun _ => ?_))
   | exact ih0 _ _ _ _
   | exact LeO.none _
   | refine LeO.ite ?_ ?_
   | refine LeO.bind ?_ (fun _ => ?_)
theorem backfilllaw12_usages.mono : ∀ a0 a1 k, LeO (backfilllaw12_usages.f k a0 a1) (backfilllaw12_usages.f (k + 1) a0 a1) := by
 intro a0 a1 k
 have ih0 := backfilllaw12_usages.mono_l k
 unfold backfilllaw12_usages.f
 repeat' first
   | (with_reducible exact ih0 _ _ _ _)
   | (with_reducible exact LeO.refl _)
   | (with_reducible exact LeO.none _)
   | (with_reducible refine LeO.ite ?_ ?_)
   | (with_reducible refine LeO.bind ?_ (fun _ => ?_))
   | exact ih0 _ _ _ _
   | exact LeO.none _
   | refine LeO.ite ?_ ?_
   | refine LeO.bind ?_ (fun _ => ?_)
set_option maxHeartbeats 8000000 in
set_option maxRecDepth 100000 in
theorem backfilllaw12_usages.calls (k : Nat) (A0 : Option Addr) (c0 : Nat) (l0 : List Int) (A1 : Option Addr) (c1 : Nat) (l1 : List Int) (r : Bool) (w : World) (hr0 : Kd.C (Kd.int .u64) w A0 l0.length l0) (hc0 : l0.length ≤ c0) (hr1 : Kd.C (Kd.int .u64) w A1 l1.length l1) (hc1 : l1.length ≤ c1) (h : backfilllaw12_usages.f k l0 l1 = some r) :
  Calls Tryd.prog 11 #[.slice A0 l0.length c0, .slice A1 l1.length c1] w fun e w' => e = .returned (.bool r) ∧ Drawn0 w w' := by
 have HR0 := Aside0.mk hr0
 have HC0 := Aside0.mk hc0
 clear hr0 hc0
 have HR1 := Aside0.mk hr1
 have HC1 := Aside0.mk hc1
 clear hr1 hc1
 have H : (if (l0.length : Int) = (l1.length : Int) then (backfilllaw12_usages.l0 k l0 l1 (l0.length : Int) 0) else (some false)) = some r := h
 clear h
 by_cases c3 : (l0.length : Int) = (l1.length : Int)
 ·rw [if_pos c3] at H
  have c3b0 : ((l0.length : Int) == (l1.length : Int)) = true := beq_iff_eq.mpr c3
  have c3b1 : ((l0.length : Int) != (l1.length : Int)) = false := bne_eq_false_iff_eq.mpr c3
  have c3b2 : (l0.length == l1.length) = true := by first | simpa using c3 | (simp at c3 ⊢; omega)
  clear c3
  have H' := Aside0.mk H
  clear H
  go_enter Tryd.func11, Tryd.ntmps11
  go_wp2
  repeat (go_quiet (fail); try go_wp2)
  go_loopg [13] k (fun kq v13 w' => ∃ (x13_1 : Int), v13 = .int .i64 x13_1 ∧ Aside0 (backfilllaw12_usages.l0 kq l0 l1 (l0.length : Int) x13_1 = some r) ∧ Aside0 (kq ≤ k) ∧ Drawn0 w w')
  case atStart => exact ⟨(0), (by first | rfl | (simp; done) | (simp [*]; done)), H', ⟨Nat.le_refl _⟩, by repeat (first | exact Drawn0.refl _ | apply Drawn0.step)⟩
  case round =>
   clear H'
   try clear c1
   try clear p2
   try clear c3
   try clear c3b0
   try clear c3b1
   try clear c3b2
   obtain ⟨x13_1, rfl, HA, HK1, ⟨m1, rfl⟩⟩ := hrel
   cases gk with
   | zero => exact absurd HA.out (by simp [backfilllaw12_usages.l0])
   | succ k1 =>
    have H := HA.out
    clear HA
    simp only [backfilllaw12_usages.l0] at H
    by_cases c4 : x13_1 < (l0.length : Int)
    ·rw [if_pos c4] at H
     have c4b0 : decide (x13_1 < (l0.length : Int)) = true := decide_eq_true c4
     clear c4
     by_cases c5 : 0 ≤ x13_1
     ·rw [if_pos c5] at H
      have c5b0 : decide (0 ≤ x13_1) = true := decide_eq_true c5
      clear c5
      by_cases c6 : x13_1 < (l0.length : Int)
      ·rw [if_pos c6] at H
       have c6b0 : decide (x13_1 < (l0.length : Int)) = true := decide_eq_true c6
       clear c6
       by_cases c7 : x13_1 < (l1.length : Int)
       ·rw [if_pos c7] at H
        have c7b0 : decide (x13_1 < (l1.length : Int)) = true := decide_eq_true c7
        clear c7
        by_cases c8 : (rd l0 x13_1) = (rd l1 x13_1)
        ·rw [if_pos c8] at H
         have c8b0 : ((rd l0 x13_1) == (rd l1 x13_1)) = true := beq_iff_eq.mpr c8
         have c8b1 : ((rd l0 x13_1) != (rd l1 x13_1)) = false := bne_eq_false_iff_eq.mpr c8
         clear c8
         have H' := Aside0.mk H
         clear H
         have p362 : 0 ≤ (x13_1 : Int) := of_decide_eq_true (by first | (with_reducible assumption) | assumption)
         have q362 : x13_1 < (l0.length : Int) := of_decide_eq_true (by first | (with_reducible assumption) | assumption)
         obtain ⟨ad362, e362, hx362_0⟩ := Kd.at_int HR0.out x13_1 p362 q362
         cases e362
         replace p362 := eq_true p362
         replace q362 := eq_true q362
         have p363 : 0 ≤ (x13_1 : Int) := of_decide_eq_true (by first | (with_reducible assumption) | assumption)
         have q363 : x13_1 < (l1.length : Int) := of_decide_eq_true (by first | (with_reducible assumption) | assumption)
         obtain ⟨ad363, e363, hx363_0⟩ := Kd.at_int HR1.out x13_1 p363 q363
         cases e363
         replace p363 := eq_true p363
         replace q363 := eq_true q363
         go_wp2
         repeat (go_quiet (fail); try go_wp2)
         go_roundg k1
         case measure => have := HK1.out; omega
         case rel => exact ⟨(wrap64 (x13_1 + 1)), (by first | rfl | (simp; done) | (simp [*]; done)), H', ⟨by have := HK1.out; omega⟩, by repeat (first | exact Drawn0.refl _ | apply Drawn0.step)⟩
        ·rw [if_neg c8] at H
         have c8b0 : ((rd l0 x13_1) == (rd l1 x13_1)) = false := beq_eq_false_iff_ne.mpr c8
         have c8b1 : ((rd l0 x13_1) != (rd l1 x13_1)) = true := bne_iff_ne.mpr c8
         obtain rfl := Option.some.inj H
         have p362 : 0 ≤ (x13_1 : Int) := of_decide_eq_true (by first | (with_reducible assumption) | assumption)
         have q362 : x13_1 < (l0.length : Int) := of_decide_eq_true (by first | (with_reducible assumption) | assumption)
         obtain ⟨ad362, e362, hx362_0⟩ := Kd.at_int HR0.out x13_1 p362 q362
         cases e362
         replace p362 := eq_true p362
         replace q362 := eq_true q362
         have p363 : 0 ≤ (x13_1 : Int) := of_decide_eq_true (by first | (with_reducible assumption) | assumption)
         have q363 : x13_1 < (l1.length : Int) := of_decide_eq_true (by first | (with_reducible assumption) | assumption)
         obtain ⟨ad363, e363, hx363_0⟩ := Kd.at_int HR1.out x13_1 p363 q363
         cases e363
         replace p363 := eq_true p363
         replace q363 := eq_true q363
         go_wp2
         repeat (go_quiet (fail); try go_wp2)
         go_ret
         exact ⟨by first | rfl | (simp; done) | (simp [*]; done), by repeat (first | exact Drawn0.refl _ | apply Drawn0.step)⟩
       ·rw [if_neg c7] at H
        exact absurd H (by simp)
      ·rw [if_neg c6] at H
       exact absurd H (by simp)
     ·rw [if_neg c5] at H
      exact absurd H (by simp)
    ·rw [if_neg c4] at H
     have c4b0 : decide (x13_1 < (l0.length : Int)) = false := decide_eq_false c4
     clear c4
     obtain rfl := Option.some.inj H
     go_wp2
     repeat (go_quiet (fail); try go_wp2)
     go_ret
     exact ⟨by first | rfl | (simp; done) | (simp [*]; done), by repeat (first | exact Drawn0.refl _ | apply Drawn0.step)⟩
 ·rw [if_neg c3] at H
  have c3b0 : ((l0.length : Int) == (l1.length : Int)) = false := beq_eq_false_iff_ne.mpr c3
  have c3b1 : ((l0.length : Int) != (l1.length : Int)) = true := bne_iff_ne.mpr c3
  have c3b2 : (l0.length == l1.length) = false := by first | simpa using c3 | (simp at c3 ⊢; omega)
  obtain rfl := Option.some.inj H
  go_enter Tryd.func11, Tryd.ntmps11
  go_wp2
  repeat (go_quiet (fail); try go_wp2)
  go_ret
  exact ⟨by first | rfl | (simp; done) | (simp [*]; done), by repeat (first | exact Drawn0.refl _ | apply Drawn0.step)⟩

/-! ### backfilllaw12_among: function 12 -/
def backfilllaw12_among.f (a0 : Int) (a1 : Int) : Option (Int) := if a1 < 1 then (some 0) else (if a1 = 0 then (none) else (if (Int.tmod a0 a1) < 0 then (some (wrap64 ((Int.tmod a0 a1) + a1))) else (some (Int.tmod a0 a1))))
set_option maxHeartbeats 8000000 in
set_option maxRecDepth 100000 in
theorem backfilllaw12_among.calls (a0 : Int) (a1 : Int) (r : Int) (w : World) (h : backfilllaw12_among.f a0 a1 = some r) :
  Calls Tryd.prog 12 #[.int .i64 a0, .int .i64 a1] w fun e w' => e = .returned (.int .i64 r) ∧ Drawn0 w w' := by
 have H : (if a1 < 1 then (some 0) else (if a1 = 0 then (none) else (if (Int.tmod a0 a1) < 0 then (some (wrap64 ((Int.tmod a0 a1) + a1))) else (some (Int.tmod a0 a1))))) = some r := h
 clear h
 by_cases c3 : a1 < 1
 ·rw [if_pos c3] at H
  have c3b0 : decide (a1 < 1) = true := decide_eq_true c3
  clear c3
  obtain rfl := Option.some.inj H
  go_enter Tryd.func12, Tryd.ntmps12
  go_wp2
  go_ret
  exact ⟨by first | rfl | (simp; done) | (simp [*]; done), by repeat (first | exact Drawn0.refl _ | apply Drawn0.step)⟩
 ·rw [if_neg c3] at H
  have c3b0 : decide (a1 < 1) = false := decide_eq_false c3
  clear c3
  by_cases c4 : a1 = 0
  ·rw [if_pos c4] at H
   exact absurd H (by simp)
  ·rw [if_neg c4] at H
   have c4b0 : (a1 == 0) = false := beq_eq_false_iff_ne.mpr c4
   have c4b1 : (a1 != 0) = true := bne_iff_ne.mpr c4
   by_cases c5 : (Int.tmod a0 a1) < 0
   ·rw [if_pos c5] at H
    have c5b0 : decide ((Int.tmod a0 a1) < 0) = true := decide_eq_true c5
    clear c5
    obtain rfl := Option.some.inj H
    go_enter Tryd.func12, Tryd.ntmps12
    go_wp2
    go_ret
    exact ⟨by first | rfl | (simp; done) | (simp [*]; done), by repeat (first | exact Drawn0.refl _ | apply Drawn0.step)⟩
   ·rw [if_neg c5] at H
    have c5b0 : decide ((Int.tmod a0 a1) < 0) = false := decide_eq_false c5
    clear c5
    obtain rfl := Option.some.inj H
    go_enter Tryd.func12, Tryd.ntmps12
    go_wp2
    go_ret
    exact ⟨by first | rfl | (simp; done) | (simp [*]; done), by repeat (first | exact Drawn0.refl _ | apply Drawn0.step)⟩

-- NOT PRINTED: function 34 (backfillref12_Ledger_List)

-- NOT PRINTED: function 14 (backfillref12_Ledger_Clone)

-- NOT PRINTED: function 35 (backfillref12_Ledger_Open)

/-! ### backfillref04_Of: function 84 -/
def backfillref04_Of.f (a0 : Int) : Option (Int × Bool) := if a0 < 0 then (some (0, false)) else (if a0 ≥ 4294967296 then (some (18446744073709551615, false)) else (some (IntKind.u64.wrap ((IntKind.u64.wrap (a0)) * 4294967296), true)))
set_option maxHeartbeats 8000000 in
set_option maxRecDepth 100000 in
theorem backfillref04_Of.calls (a0 : Int) (r1 : Int) (r2 : Bool) (w : World) (h : backfillref04_Of.f a0 = some (r1, r2)) :
  Calls Tryd.prog 84 #[.int .i64 a0] w fun e w' => e = .returned (.tuple #[.int .u64 r1, .bool r2]) ∧ Drawn0 w w' := by
 have H : (if a0 < 0 then (some (0, false)) else (if a0 ≥ 4294967296 then (some (18446744073709551615, false)) else (some (IntKind.u64.wrap ((IntKind.u64.wrap (a0)) * 4294967296), true)))) = some (r1, r2) := h
 clear h
 by_cases c2 : a0 < 0
 ·rw [if_pos c2] at H
  have c2b0 : decide (a0 < 0) = true := decide_eq_true c2
  clear c2
  simp only [Option.some.injEq, Prod.mk.injEq] at H
  obtain ⟨rfl, rfl⟩ := H
  go_enter Tryd.func84, Tryd.ntmps84
  go_wp2
  go_ret2
  exact ⟨by first | rfl | (simp; done) | (simp [*]; done), by repeat (first | exact Drawn0.refl _ | apply Drawn0.step)⟩
 ·rw [if_neg c2] at H
  have c2b0 : decide (a0 < 0) = false := decide_eq_false c2
  clear c2
  by_cases c3 : a0 ≥ 4294967296
  ·rw [if_pos c3] at H
   have c3b0 : decide (4294967296 ≤ a0) = true := decide_eq_true c3
   clear c3
   simp only [Option.some.injEq, Prod.mk.injEq] at H
   obtain ⟨rfl, rfl⟩ := H
   go_enter Tryd.func84, Tryd.ntmps84
   go_wp2
   go_ret2
   exact ⟨by first | rfl | (simp; done) | (simp [*]; done), by repeat (first | exact Drawn0.refl _ | apply Drawn0.step)⟩
  ·rw [if_neg c3] at H
   have c3b0 : decide (4294967296 ≤ a0) = false := decide_eq_false c3
   clear c3
   simp only [Option.some.injEq, Prod.mk.injEq] at H
   obtain ⟨rfl, rfl⟩ := H
   go_enter Tryd.func84, Tryd.ntmps84
   go_wp2
   go_ret2
   exact ⟨by first | rfl | (simp; done) | (simp [*]; done), by repeat (first | exact Drawn0.refl _ | apply Drawn0.step)⟩

/-! ### backfillref04_small: function 97 -/
def backfillref04_small.f (a0_0 : Int) (a0_1 : Int) : Option (Int × Bool) := if a0_0 > 0 then (some (18446744073709551615, false)) else (some (a0_1, true))
set_option maxHeartbeats 8000000 in
set_option maxRecDepth 100000 in
theorem backfillref04_small.calls (a0_0 : Int) (a0_1 : Int) (r1 : Int) (r2 : Bool) (w : World) (h : backfillref04_small.f a0_0 a0_1 = some (r1, r2)) :
  Calls Tryd.prog 97 #[.agg #[.int .u64 a0_0, .int .u64 a0_1]] w fun e w' => e = .returned (.tuple #[.int .u64 r1, .bool r2]) ∧ Below w.heap.size w w' := by
 have hu94 := Tryd.underlying94
 have HB := Aside0.mk (Below.refl w.heap.size w)
 have H : (if a0_0 > 0 then (some (18446744073709551615, false)) else (some (a0_1, true))) = some (r1, r2) := h
 clear h
 by_cases c2 : a0_0 > 0
 ·rw [if_pos c2] at H
  have c2b0 : decide (0 < a0_0) = true := decide_eq_true c2
  clear c2
  simp only [Option.some.injEq, Prod.mk.injEq] at H
  obtain ⟨rfl, rfl⟩ := H
  go_enter Tryd.func97, Tryd.ntmps97
  go_wp2_with (first | ((with_reducible refine gate_dst (N := 1) rfl ?_); refine bxA 1 #[.int .u64 a0_0, .int .u64 a0_1] 94 ?_; intro gb364 hg w3 hbox hb; have n0_ := Aside0.mk (below_step bA hb); have n1_ := Aside0.mk (hbox); have n2_ := Aside0.mk (gwA hg bA); have n3_ := Aside0.mk (gwA hg bA); clear HB; have HB := n0_; have BK364 := n1_; have GW364 := n2_; have GE364 := n3_; clear n0_ n1_ n2_ n3_ hb hbox hg; have hcz4_0 : w3.cell? ⟨gb364, 0, none⟩ = some (.int .u64 a0_0) := (blk_cell BK364.out 0).trans rfl; have hcz4_1 : w3.cell? ⟨gb364, 1, none⟩ = some (.int .u64 a0_1) := (blk_cell BK364.out 1).trans rfl; have hfz4_0 := blk_frozen BK364.out 0; have hfz4_1 := blk_frozen BK364.out 1))
  go_ret2
  exact ⟨by first | rfl | (simp [errW_none, errW_some] <;> rfl) | (simp [*, errW_none, errW_some] <;> rfl), bA⟩
 ·rw [if_neg c2] at H
  have c2b0 : decide (0 < a0_0) = false := decide_eq_false c2
  clear c2
  simp only [Option.some.injEq, Prod.mk.injEq] at H
  obtain ⟨rfl, rfl⟩ := H
  go_enter Tryd.func97, Tryd.ntmps97
  go_wp2_with (first | ((with_reducible refine gate_dst (N := 1) rfl ?_); refine bxA 1 #[.int .u64 a0_0, .int .u64 a0_1] 94 ?_; intro gb364 hg w5 hbox hb; have n0_ := Aside0.mk (below_step bA hb); have n1_ := Aside0.mk (hbox); have n2_ := Aside0.mk (gwA hg bA); have n3_ := Aside0.mk (gwA hg bA); clear HB; have HB := n0_; have BK364 := n1_; have GW364 := n2_; have GE364 := n3_; clear n0_ n1_ n2_ n3_ hb hbox hg; have hcz6_0 : w5.cell? ⟨gb364, 0, none⟩ = some (.int .u64 a0_0) := (blk_cell BK364.out 0).trans rfl; have hcz6_1 : w5.cell? ⟨gb364, 1, none⟩ = some (.int .u64 a0_1) := (blk_cell BK364.out 1).trans rfl; have hfz6_0 := blk_frozen BK364.out 0; have hfz6_1 := blk_frozen BK364.out 1))
  go_ret2
  exact ⟨by first | rfl | (simp [errW_none, errW_some] <;> rfl) | (simp [*, errW_none, errW_some] <;> rfl), bA⟩

/-! ### backfillref04_Add: function 85 -/
def backfillref04_Add.f (a0 : Int) (a1 : Int) : Option (Int × Bool) := (backfillref01_Of.f a0).bind fun bt365 => ((backfillref01_Of.f a1).bind fun bt367 => ((backfillref01_Add.f bt365.1 bt365.2 bt367.1 bt367.2).bind fun bt369 => ((backfillref04_small.f bt369.1 bt369.2.1).bind fun bt373 => (some (bt373.1, bt373.2)))))
set_option maxHeartbeats 8000000 in
set_option maxRecDepth 100000 in
theorem backfillref04_Add.calls (a0 : Int) (a1 : Int) (r1 : Int) (r2 : Bool) (w : World) (h : backfillref04_Add.f a0 a1 = some (r1, r2)) :
  Calls Tryd.prog 85 #[.int .u64 a0, .int .u64 a1] w fun e w' => e = .returned (.tuple #[.int .u64 r1, .bool r2]) ∧ Below w.heap.size w w' := by
 have hu94 := Tryd.underlying94
 have HB := Aside0.mk (Below.refl w.heap.size w)
 have H : ((backfillref01_Of.f a0).bind fun bt365 => ((backfillref01_Of.f a1).bind fun bt367 => ((backfillref01_Add.f bt365.1 bt365.2 bt367.1 bt367.2).bind fun bt369 => ((backfillref04_small.f bt369.1 bt369.2.1).bind fun bt373 => (some (bt373.1, bt373.2)))))) = some (r1, r2) := h
 clear h; replace H := Option.bind_eq_some_iff.mp H; obtain ⟨⟨t365, t366⟩, A30, H⟩ := H; replace H : ((backfillref01_Of.f a1).bind fun bt367 => ((backfillref01_Add.f t365 t366 bt367.1 bt367.2).bind fun bt369 => ((backfillref04_small.f bt369.1 bt369.2.1).bind fun bt373 => (some (bt373.1, bt373.2))))) = some (r1, r2) := H; have A3 := Aside0.mk A30; clear A30; replace H := Option.bind_eq_some_iff.mp H; obtain ⟨⟨t367, t368⟩, A40, H⟩ := H; replace H : ((backfillref01_Add.f t365 t366 t367 t368).bind fun bt369 => ((backfillref04_small.f bt369.1 bt369.2.1).bind fun bt373 => (some (bt373.1, bt373.2)))) = some (r1, r2) := H; have A4 := Aside0.mk A40; clear A40; replace H := Option.bind_eq_some_iff.mp H; obtain ⟨⟨t369, t370, t371⟩, A50, H⟩ := H; replace H : ((backfillref04_small.f t369 t370).bind fun bt373 => (some (bt373.1, bt373.2))) = some (r1, r2) := H; have A5 := Aside0.mk A50; clear A50; replace H := Option.bind_eq_some_iff.mp H; obtain ⟨⟨t373, t374⟩, A60, H⟩ := H; replace H : (some (t373, t374)) = some (r1, r2) := H; have A6 := Aside0.mk A60; clear A60
 simp only [Option.some.injEq, Prod.mk.injEq] at H
 obtain ⟨rfl, rfl⟩ := H
 go_enter Tryd.func85, Tryd.ntmps85
 go_wp2_with (first | ((with_reducible refine gate_callee (f := 77) rfl ?_); refine goesL_ (some 10) rfl rfl Tryd.func77 (by kernel_rfl) rfl #[.int .u64 a0] rfl aA ?_; (with_reducible refine (backfillref01_Of.calls a0 t365 t366 _ A3.out).mono ?_); rintro e w7 ⟨rfl, hb⟩; refine ⟨_, rfl, ?_⟩; have n0_ := Aside0.mk (below_step bA hb); clear HB; have HB := n0_; clear n0_; (try clear hb)) | ((with_reducible refine gate_callee (f := 77) rfl ?_); refine goesL_ (some 12) rfl rfl Tryd.func77 (by kernel_rfl) rfl #[.int .u64 a1] rfl aA ?_; (with_reducible refine (backfillref01_Of.calls a1 t367 t368 _ A4.out).mono ?_); rintro e w8 ⟨rfl, hb⟩; refine ⟨_, rfl, ?_⟩; have n0_ := Aside0.mk (below_step bA hb); clear HB; have HB := n0_; clear n0_; (try clear hb)) | ((with_reducible refine gate_callee (f := 80) rfl ?_); refine goesL_ (some 13) rfl rfl Tryd.func80 (by kernel_rfl) rfl #[.agg #[.int .u64 t365, .int .u64 t366], .agg #[.int .u64 t367, .int .u64 t368]] rfl aA ?_; (with_reducible refine (backfillref01_Add.calls t365 t366 t367 t368 t369 t370 t371 _ A5.out).mono ?_); rintro e w9 ⟨rfl, hb⟩; refine ⟨_, rfl, ?_⟩; have n0_ := Aside0.mk (below_step bA hb); clear HB; have HB := n0_; clear n0_; (try clear hb)) | ((with_reducible refine gate_dst (N := 6) rfl ?_); refine bxA 6 #[.int .u64 0, .int .u64 0] 94 ?_; intro gb372 hg w10 hbox hb; have n0_ := Aside0.mk (below_step bA hb); have n1_ := Aside0.mk (hbox); have n2_ := Aside0.mk (gwA hg bA); have n3_ := Aside0.mk (gwA hg bA); clear HB; have HB := n0_; have BK372 := n1_; have GW372 := n2_; have GE372 := n3_; clear n0_ n1_ n2_ n3_ hb hbox hg; have hcz11_0 : w10.cell? ⟨gb372, 0, none⟩ = some (.int .u64 0) := (blk_cell BK372.out 0).trans rfl; have hcz11_1 : w10.cell? ⟨gb372, 1, none⟩ = some (.int .u64 0) := (blk_cell BK372.out 1).trans rfl; have hfz11_0 := blk_frozen BK372.out 0; have hfz11_1 := blk_frozen BK372.out 1) | ((with_reducible refine gate_callee (f := 97) rfl ?_); refine goesL_ (some 17) rfl rfl Tryd.func97 (by kernel_rfl) rfl #[.agg #[.int .u64 t369, .int .u64 t370]] rfl aA ?_; (with_reducible refine (backfillref04_small.calls t369 t370 t373 t374 _ A6.out).mono ?_); rintro e w12 ⟨rfl, hb⟩; refine ⟨_, rfl, ?_⟩; have n0_ := Aside0.mk (blk_below (g := gb372) (o := .cells #[.int .u64 t369, .int .u64 t370] 94 (0, 0)) (by (with_reducible repeat (first | refine blk_drewN ?_ _ | refine blk_drew ?_ | refine blk_alloc ?_ _)); refine blk_put (cs := #[.int .u64 t369, .int .u64 0]) ?_ 1 _ rfl; (with_reducible repeat (first | refine blk_drewN ?_ _ | refine blk_drew ?_ | refine blk_alloc ?_ _)); refine blk_put (cs := #[.int .u64 0, .int .u64 0]) ?_ 0 _ rfl; exact kA) hb); have n1_ := Aside0.mk (below_step bA hb); clear BK372 HB; have BK372 := n0_; have HB := n1_; clear n0_ n1_; (try clear hb)))
 go_ret2
 exact ⟨by first | rfl | (simp [errW_none, errW_some] <;> rfl) | (simp [*, errW_none, errW_some] <;> rfl), bA⟩

/-! ### backfillref10_Charge: function 60 -/
def backfillref10_Charge.f (a0 : Int) (a1 : Int) : Option (Int) := if a1 < 0 then (some a0) else ((backfillref04_Of.f a1).bind fun bt375 => ((backfillref04_Add.f a0 bt375.1).bind fun bt377 => (some bt377.1)))
set_option maxHeartbeats 8000000 in
set_option maxRecDepth 100000 in
theorem backfillref10_Charge.calls (a0 : Int) (a1 : Int) (r : Int) (w : World) (h : backfillref10_Charge.f a0 a1 = some r) :
  Calls Tryd.prog 60 #[.int .u64 a0, .int .i64 a1] w fun e w' => e = .returned (.int .u64 r) ∧ Below w.heap.size w w' := by
 have HB := Aside0.mk (Below.refl w.heap.size w)
 have H : (if a1 < 0 then (some a0) else ((backfillref04_Of.f a1).bind fun bt375 => ((backfillref04_Add.f a0 bt375.1).bind fun bt377 => (some bt377.1)))) = some r := h
 clear h
 by_cases c3 : a1 < 0
 ·rw [if_pos c3] at H
  have c3b0 : decide (a1 < 0) = true := decide_eq_true c3
  clear c3
  obtain rfl := Option.some.inj H
  go_enter Tryd.func60, Tryd.ntmps60
  go_wp2
  go_ret
  exact ⟨by first | rfl | (simp [errW_none, errW_some] <;> rfl) | (simp [*, errW_none, errW_some] <;> rfl), bA⟩
 ·rw [if_neg c3] at H
  have c3b0 : decide (a1 < 0) = false := decide_eq_false c3
  clear c3; replace H := Option.bind_eq_some_iff.mp H; obtain ⟨⟨t375, t376⟩, A40, H⟩ := H; replace H : ((backfillref04_Add.f a0 t375).bind fun bt377 => (some bt377.1)) = some r := H; have A4 := Aside0.mk A40; clear A40; replace H := Option.bind_eq_some_iff.mp H; obtain ⟨⟨t377, t378⟩, A50, H⟩ := H; replace H : (some t377) = some r := H; have A5 := Aside0.mk A50; clear A50
  obtain rfl := Option.some.inj H
  go_enter Tryd.func60, Tryd.ntmps60
  go_wp2_with (first | ((with_reducible refine gate_callee (f := 84) rfl ?_); refine goesL_ (some 14) rfl rfl Tryd.func84 (by kernel_rfl) rfl #[.int .i64 a1] rfl aA ?_; (with_reducible refine (backfillref04_Of.calls a1 t375 t376 _ A4.out).mono ?_); rintro e w' ⟨rfl, ⟨nd, rfl⟩⟩; refine ⟨_, rfl, ?_⟩) | ((with_reducible refine gate_callee (f := 85) rfl ?_); refine goesL_ (some 20) rfl rfl Tryd.func85 (by kernel_rfl) rfl #[.int .u64 a0, .int .u64 t375] rfl aA ?_; (with_reducible refine (backfillref04_Add.calls a0 t375 t377 t378 _ A5.out).mono ?_); rintro e w6 ⟨rfl, hb⟩; refine ⟨_, rfl, ?_⟩; have n0_ := Aside0.mk (below_step bA hb); clear HB; have HB := n0_; clear n0_; (try clear hb)))
  go_ret
  exact ⟨by first | rfl | (simp [errW_none, errW_some] <;> rfl) | (simp [*, errW_none, errW_some] <;> rfl), bA⟩

-- NOT PRINTED: function 36 (backfillref12_Ledger_Charge)

end Go.Proofs.YtgjjfnjnjnbfgaaDoor.GLG
