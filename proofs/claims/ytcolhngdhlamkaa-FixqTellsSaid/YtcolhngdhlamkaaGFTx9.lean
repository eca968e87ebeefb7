-- Laid by a program of this session (wip/tools/pr.py): contracts and pure functions; Lean checks it.
import Derived.Test.YtcolhngdhlamkaaGFTx0
import Derived.Test.YtcolhngdhlamkaaGFTx1
import Derived.Test.YtcolhngdhlamkaaGFTx3
import Derived.Test.YtcolhngdhlamkaaGFTx4
import Derived.Test.YtcolhngdhlamkaaGFTx6
import Derived.Test.YtcolhngdhlamkaaGFTx7
import Derived.Test.YtcolhngdhlamkaaGFTx8
namespace Go.Proofs.Ytcolhngdhlamkaa.GFT
open Go.RowKit Go.Proofs.YtcolhngdhlamkaaW.PrintWords Go.Proofs.YtcolhngdhlamkaaW.PrintLast Go.Proofs.YtcolhngdhlamkaaW.PrintMore
attribute [local go_sem] max2_int min2_int max_two min_two max_three min_three max_four min_four   -- for this text's walks alone
set_option linter.unusedVariables false
set_option linter.unusedSimpArgs false

attribute [local go_sem high] eqA63
/-! ### backfilllaw04_FixqTells: function 9 -/
mutual
def backfilllaw04_FixqTells.j0 : Nat → Int → Int → Int → Bool → Bool → Option (Bool)
  | 0, _, _, _, _, _ => none
  | k + 1, x0, x1, x2, x7, x8 => (fixq_MulDown.f k x0 x1).bind fun bt316 => ((backfilllaw04_of.f bt316.1 bt316.2).bind fun bt318 => ((backfillref04_MulDown.f k x0 x1).bind fun bt320 => ((backfilllaw04_of.f bt320.1 bt320.2).bind fun bt322 => (if (bt318.1 == bt322.1 && (bt318.2 == bt322.2)) = true then ((fixq_MulUp.f k x0 x1).bind fun bt324 => ((backfilllaw04_of.f bt324.1 bt324.2).bind fun bt326 => ((backfillref04_MulUp.f k x0 x1).bind fun bt328 => ((backfilllaw04_of.f bt328.1 bt328.2).bind fun bt330 => (backfilllaw04_FixqTells.j1 k x0 x1 x2 x7 x8 (bt326.1 == bt330.1 && (bt326.2 == bt330.2))))))) else (backfilllaw04_FixqTells.j1 k x0 x1 x2 x7 x8 false)))))
def backfilllaw04_FixqTells.j1 : Nat → Int → Int → Int → Bool → Bool → Bool → Option (Bool)
  | 0, _, _, _, _, _, _ => none
  | k + 1, x0, x1, x2, x7, x8, x9 => (fixq_DivDown.f k x0 x1).bind fun bt332 => ((backfilllaw04_of.f bt332.1 bt332.2).bind fun bt334 => ((backfillref04_DivDown.f k x0 x1).bind fun bt336 => ((backfilllaw04_of.f bt336.1 bt336.2).bind fun bt338 => (if (bt334.1 == bt338.1 && (bt334.2 == bt338.2)) = true then ((fixq_DivUp.f k x0 x1).bind fun bt340 => ((backfilllaw04_of.f bt340.1 bt340.2).bind fun bt342 => ((backfillref04_DivUp.f k x0 x1).bind fun bt344 => ((backfilllaw04_of.f bt344.1 bt344.2).bind fun bt346 => (backfilllaw04_FixqTells.j2 k x0 x1 x2 x7 x8 x9 (bt342.1 == bt346.1 && (bt342.2 == bt346.2))))))) else (backfilllaw04_FixqTells.j2 k x0 x1 x2 x7 x8 x9 false)))))
def backfilllaw04_FixqTells.j2 : Nat → Int → Int → Int → Bool → Bool → Bool → Bool → Option (Bool)
  | 0, _, _, _, _, _, _, _ => none
  | k + 1, x0, x1, x2, x7, x8, x9, x10 => if x7 = true then (if x8 = true then (if x9 = true then (if x10 = true then ((fixq_Of.f x2).bind fun bt348 => ((backfilllaw04_of.f bt348.1 bt348.2).bind fun bt350 => ((backfillref04_Of.f x2).bind fun bt352 => ((backfilllaw04_of.f bt352.1 bt352.2).bind fun bt354 => (if (bt350.1 == bt354.1 && (bt350.2 == bt354.2)) = true then ((fixq_Floor.f x0).bind fun t356 => ((backfillref04_Floor.f x0).bind fun t357 => (if t356 = t357 then ((fixq_Part.f x0 x1).bind fun t358 => ((backfillref04_Part.f k x0 x1).bind fun t359 => (some (t358 == t359)))) else (some false)))) else (some false)))))) else (some false)) else (some false)) else (some false)) else (some false)
end
def backfilllaw04_FixqTells.f (k : Nat) (a0 : Int) (a1 : Int) (a2 : Int) : Option (Bool) := (backfilllaw04_shown.f k).bind fun t299 => ((fixq_Add.f a0 a1).bind fun bt300 => ((backfilllaw04_of.f bt300.1 bt300.2).bind fun bt302 => ((backfillref04_Add.f a0 a1).bind fun bt304 => ((backfilllaw04_of.f bt304.1 bt304.2).bind fun bt306 => (if (bt302.1 == bt306.1 && (bt302.2 == bt306.2)) = true then ((fixq_Sub.f a0 a1).bind fun bt308 => ((backfilllaw04_of.f bt308.1 bt308.2).bind fun bt310 => ((backfillref04_Sub.f a0 a1).bind fun bt312 => ((backfilllaw04_of.f bt312.1 bt312.2).bind fun bt314 => (backfilllaw04_FixqTells.j0 k a0 a1 a2 t299 (bt310.1 == bt314.1 && (bt310.2 == bt314.2))))))) else (backfilllaw04_FixqTells.j0 k a0 a1 a2 t299 false))))))
theorem backfilllaw04_FixqTells.mono_l : ∀ k, (∀ y0 y1 y2 y3 y4, LeO (backfilllaw04_FixqTells.j0 k y0 y1 y2 y3 y4) (backfilllaw04_FixqTells.j0 (k + 1) y0 y1 y2 y3 y4)) ∧ (∀ y0 y1 y2 y3 y4 y5, LeO (backfilllaw04_FixqTells.j1 k y0 y1 y2 y3 y4 y5) (backfilllaw04_FixqTells.j1 (k + 1) y0 y1 y2 y3 y4 y5)) ∧ (∀ y0 y1 y2 y3 y4 y5 y6, LeO (backfilllaw04_FixqTells.j2 k y0 y1 y2 y3 y4 y5 y6) (backfilllaw04_FixqTells.j2 (k + 1) y0 y1 y2 y3 y4 y5 y6))
  | 0 => ⟨fun _ _ _ _ _ r h => by simp [backfilllaw04_FixqTells.j0] at h, fun _ _ _ _ _ _ r h => by simp [backfilllaw04_FixqTells.j1] at h, fun _ _ _ _ _ _ _ r h => by simp [backfilllaw04_FixqTells.j2] at h⟩
  | k + 1 => by
    obtain ⟨ih0, ih1, ih2⟩ := backfilllaw04_FixqTells.mono_l k
    refine ⟨?_, ?_, ?_⟩
    · intro y0 y1 y2 y3 y4
      unfold backfilllaw04_FixqTells.j0
      repeat' first
      | (with_reducible exact ih0 _ _ _ _ _)
      | (with_reducible exact ih1 _ _ _ _ _ _)
      | (with_reducible exact ih2 _ _ _ _ _ _ _)
      | (with_reducible exact backfilllaw04_shown.mono _)
      | (with_reducible exact backfillref04_DivDown.mono _ _ _)
      | (with_reducible exact backfillref04_DivUp.mono _ _ _)
      | (with_reducible exact backfillref04_MulDown.mono _ _ _)
      | (with_reducible exact backfillref04_MulUp.mono _ _ _)
      | (with_reducible exact backfillref04_Part.mono _ _ _)
      | (with_reducible exact fixq_DivDown.mono _ _ _)
      | (with_reducible exact fixq_DivUp.mono _ _ _)
      | (with_reducible exact fixq_MulDown.mono _ _ _)
      | (with_reducible exact fixq_MulUp.mono _ _ _)
      | (with_reducible exact LeO.refl _)
      | (with_reducible exact LeO.none _)
      | (with_reducible refine LeO.ite ?_ ?_)
      | (with_reducible refine LeO.bind ?_ (fun _ => ?_))
      | exact ih0 _ _ _ _ _
      | exact ih1 _ _ _ _ _ _
      | exact ih2 _ _ _ _ _ _ _
      | exact backfilllaw04_shown.mono _
      | exact backfillref04_DivDown.mono _ _ _
      | exact backfillref04_DivUp.mono _ _ _
      | exact backfillref04_MulDown.mono _ _ _
      | exact backfillref04_MulUp.mono _ _ _
      | exact backfillref04_Part.mono _ _ _
      | exact fixq_DivDown.mono _ _ _
      | exact fixq_DivUp.mono _ _ _
      | exact fixq_MulDown.mono _ _ _
      | exact fixq_MulUp.mono _ _ _
      | exact LeO.none _
      | refine LeO.ite ?_ ?_
      | refine LeO.bind ?_ (fun _ => ?_)
    · intro y0 y1 y2 y3 y4 y5
      unfold backfilllaw04_FixqTells.j1
      repeat' first
      | (with_reducible exact ih0 _ _ _ _ _)
      | (with_reducible exact ih1 _ _ _ _ _ _)
      | (with_reducible exact ih2 _ _ _ _ _ _ _)
      | (with_reducible exact backfilllaw04_shown.mono _)
      | (with_reducible exact backfillref04_DivDown.mono _ _ _)
      | (with_reducible exact backfillref04_DivUp.mono _ _ _)
      | (with_reducible exact backfillref04_MulDown.mono _ _ _)
      | (with_reducible exact backfillref04_MulUp.mono _ _ _)
      | (with_reducible exact backfillref04_Part.mono _ _ _)
      | (with_reducible exact fixq_DivDown.mono _ _ _)
      | (with_reducible exact fixq_DivUp.mono _ _ _)
      | (with_reducible exact fixq_MulDown.mono _ _ _)
      | (with_reducible exact fixq_MulUp.mono _ _ _)
      | (with_reducible exact LeO.refl _)
      | (with_reducible exact LeO.none _)
      | (with_reducible refine LeO.ite ?_ ?_)
      | (with_reducible refine LeO.bind ?_ (fun _ => ?_))
      | exact ih0 _ _ _ _ _
      | exact ih1 _ _ _ _ _ _
      | exact ih2 _ _ _ _ _ _ _
      | exact backfilllaw04_shown.mono _
      | exact backfillref04_DivDown.mono _ _ _
      | exact backfillref04_DivUp.mono _ _ _
      | exact backfillref04_MulDown.mono _ _ _
      | exact backfillref04_MulUp.mono _ _ _
      | exact backfillref04_Part.mono _ _ _
      | exact fixq_DivDown.mono _ _ _
      | exact fixq_DivUp.mono _ _ _
      | exact fixq_MulDown.mono _ _ _
      | exact fixq_MulUp.mono _ _ _
      | exact LeO.none _
      | refine LeO.ite ?_ ?_
      | refine LeO.bind ?_ (fun _ => ?_)
    · intro y0 y1 y2 y3 y4 y5 y6
      unfold backfilllaw04_FixqTells.j2
      repeat' first
      | (with_reducible exact ih0 _ _ _ _ _)
      | (with_reducible exact ih1 _ _ _ _ _ _)
      | (with_reducible exact ih2 _ _ _ _ _ _ _)
      | (with_reducible exact backfilllaw04_shown.mono _)
      | (with_reducible exact backfillref04_DivDown.mono _ _ _)
      | (with_reducible exact backfillref04_DivUp.mono _ _ _)
      | (with_reducible exact backfillref04_MulDown.mono _ _ _)
      | (with_reducible exact backfillref04_MulUp.mono _ _ _)
      | (with_reducible exact backfillref04_Part.mono _ _ _)
      | (with_reducible exact fixq_DivDown.mono _ _ _)
      | (with_reducible exact fixq_DivUp.mono _ _ _)
      | (with_reducible exact fixq_MulDown.mono _ _ _)
      | (with_reducible exact fixq_MulUp.mono _ _ _)
      | (with_reducible exact LeO.refl _)
      | (with_reducible exact LeO.none _)
      | (with_reducible refine LeO.ite ?_ ?_)
      | (with_reducible refine LeO.bind ?_ (fun _ => ?_))
      | exact ih0 _ _ _ _ _
      | exact ih1 _ _ _ _ _ _
      | exact ih2 _ _ _ _ _ _ _
      | exact backfilllaw04_shown.mono _
      | exact backfillref04_DivDown.mono _ _ _
      | exact backfillref04_DivUp.mono _ _ _
      | exact backfillref04_MulDown.mono _ _ _
      | exact backfillref04_MulUp.mono _ _ _
      | exact backfillref04_Part.mono _ _ _
      | exact fixq_DivDown.mono _ _ _
      | exact fixq_DivUp.mono _ _ _
      | exact fixq_MulDown.mono _ _ _
      | exact fixq_MulUp.mono _ _ _
      | exact LeO.none _
      | refine LeO.ite ?_ ?_
      | refine LeO.bind ?_ (fun _ => ?_)
theorem backfilllaw04_FixqTells.mono : ∀ a0 a1 a2 k, LeO (backfilllaw04_FixqTells.f k a0 a1 a2) (backfilllaw04_FixqTells.f (k + 1) a0 a1 a2) := by
  intro a0 a1 a2 k
  obtain ⟨ih0, ih1, ih2⟩ := backfilllaw04_FixqTells.mono_l k
  unfold backfilllaw04_FixqTells.f
  repeat' first
      | (with_reducible exact ih0 _ _ _ _ _)
      | (with_reducible exact ih1 _ _ _ _ _ _)
      | (with_reducible exact ih2 _ _ _ _ _ _ _)
      | (with_reducible exact backfilllaw04_shown.mono _)
      | (with_reducible exact backfillref04_DivDown.mono _ _ _)
      | (with_reducible exact backfillref04_DivUp.mono _ _ _)
      | (with_reducible exact backfillref04_MulDown.mono _ _ _)
      | (with_reducible exact backfillref04_MulUp.mono _ _ _)
      | (with_reducible exact backfillref04_Part.mono _ _ _)
      | (with_reducible exact fixq_DivDown.mono _ _ _)
      | (with_reducible exact fixq_DivUp.mono _ _ _)
      | (with_reducible exact fixq_MulDown.mono _ _ _)
      | (with_reducible exact fixq_MulUp.mono _ _ _)
      | (with_reducible exact LeO.refl _)
      | (with_reducible exact LeO.none _)
      | (with_reducible refine LeO.ite ?_ ?_)
      | (with_reducible refine LeO.bind ?_ (fun _ => ?_))
      | exact ih0 _ _ _ _ _
      | exact ih1 _ _ _ _ _ _
      | exact ih2 _ _ _ _ _ _ _
      | exact backfilllaw04_shown.mono _
      | exact backfillref04_DivDown.mono _ _ _
      | exact backfillref04_DivUp.mono _ _ _
      | exact backfillref04_MulDown.mono _ _ _
      | exact backfillref04_MulUp.mono _ _ _
      | exact backfillref04_Part.mono _ _ _
      | exact fixq_DivDown.mono _ _ _
      | exact fixq_DivUp.mono _ _ _
      | exact fixq_MulDown.mono _ _ _
      | exact fixq_MulUp.mono _ _ _
      | exact LeO.none _
      | refine LeO.ite ?_ ?_
      | refine LeO.bind ?_ (fun _ => ?_)
set_option maxHeartbeats 8000000 in
set_option maxRecDepth 100000 in
theorem backfilllaw04_FixqTells.calls (k : Nat) (a0 : Int) (a1 : Int) (a2 : Int) (r : Bool) (w : World) (h : backfilllaw04_FixqTells.f k a0 a1 a2 = some r) :
    Calls Try.prog 9 #[.int .u64 a0, .int .u64 a1, .int .i64 a2] w fun e w' => e = .returned (.bool r) ∧ Below w.heap.size w w' := by
  have HB := Aside0.mk (Below.refl w.heap.size w)
  have H : ((backfilllaw04_shown.f k).bind fun t299 => ((fixq_Add.f a0 a1).bind fun bt300 => ((backfilllaw04_of.f bt300.1 bt300.2).bind fun bt302 => ((backfillref04_Add.f a0 a1).bind fun bt304 => ((backfilllaw04_of.f bt304.1 bt304.2).bind fun bt306 => (if (bt302.1 == bt306.1 && (bt302.2 == bt306.2)) = true then ((fixq_Sub.f a0 a1).bind fun bt308 => ((backfilllaw04_of.f bt308.1 bt308.2).bind fun bt310 => ((backfillref04_Sub.f a0 a1).bind fun bt312 => ((backfilllaw04_of.f bt312.1 bt312.2).bind fun bt314 => (backfilllaw04_FixqTells.j0 k a0 a1 a2 t299 (bt310.1 == bt314.1 && (bt310.2 == bt314.2))))))) else (backfilllaw04_FixqTells.j0 k a0 a1 a2 t299 false))))))) = some r := h
  clear h
  replace H := Option.bind_eq_some_iff.mp H
  obtain ⟨t299, A40, H⟩ := H
  replace H : ((fixq_Add.f a0 a1).bind fun bt300 => ((backfilllaw04_of.f bt300.1 bt300.2).bind fun bt302 => ((backfillref04_Add.f a0 a1).bind fun bt304 => ((backfilllaw04_of.f bt304.1 bt304.2).bind fun bt306 => (if (bt302.1 == bt306.1 && (bt302.2 == bt306.2)) = true then ((fixq_Sub.f a0 a1).bind fun bt308 => ((backfilllaw04_of.f bt308.1 bt308.2).bind fun bt310 => ((backfillref04_Sub.f a0 a1).bind fun bt312 => ((backfilllaw04_of.f bt312.1 bt312.2).bind fun bt314 => (backfilllaw04_FixqTells.j0 k a0 a1 a2 t299 (bt310.1 == bt314.1 && (bt310.2 == bt314.2))))))) else (backfilllaw04_FixqTells.j0 k a0 a1 a2 t299 false)))))) = some r := H
  have A4 := Aside0.mk A40
  clear A40
  have HC5 := Aside0.mk H
  clear H
  go_enter Try.func9, Try.ntmps9
  go_upto_region 2 with (first | ((with_reducible refine gate_callee (f := 12) rfl ?_); refine goesL_ (some 11) rfl rfl Try.func12 (by kernel_rfl) rfl #[] rfl aA ?_; (with_reducible refine (backfilllaw04_shown.calls k  t299 _ A4.out).mono ?_); rintro e w6 ⟨rfl, hb⟩; refine ⟨_, rfl, ?_⟩; have n0_ := Aside0.mk (below_step bA hb); clear HB; have HB := n0_; clear n0_; (try clear hb); (try clear hb2); (try clear hk); (try clear hi)))
  (try simp only [Act.put, List.setIfInBounds_toArray, List.set_cons_zero, List.set_cons_succ])
  go_cut [8] (fun v8 wc => ∃ (kq : Nat) (x8_4 : Bool), v8 = .bool x8_4 ∧ Aside0 (backfilllaw04_FixqTells.j0 kq a0 a1 a2 t299 x8_4 = some r) ∧ Aside0 (kq ≤ k) ∧ Aside0 (Below w.heap.size w wc))
  case first =>
    have H := HC5.out
    clear HC5
    replace H := Option.bind_eq_some_iff.mp H
    obtain ⟨⟨t300, t301⟩, A70, H⟩ := H
    replace H : ((backfilllaw04_of.f t300 t301).bind fun bt302 => ((backfillref04_Add.f a0 a1).bind fun bt304 => ((backfilllaw04_of.f bt304.1 bt304.2).bind fun bt306 => (if (bt302.1 == bt306.1 && (bt302.2 == bt306.2)) = true then ((fixq_Sub.f a0 a1).bind fun bt308 => ((backfilllaw04_of.f bt308.1 bt308.2).bind fun bt310 => ((backfillref04_Sub.f a0 a1).bind fun bt312 => ((backfilllaw04_of.f bt312.1 bt312.2).bind fun bt314 => (backfilllaw04_FixqTells.j0 k a0 a1 a2 t299 (bt310.1 == bt314.1 && (bt310.2 == bt314.2))))))) else (backfilllaw04_FixqTells.j0 k a0 a1 a2 t299 false))))) = some r := H
    have A7 := Aside0.mk A70
    clear A70
    replace H := Option.bind_eq_some_iff.mp H
    obtain ⟨⟨t302, t303⟩, A80, H⟩ := H
    replace H : ((backfillref04_Add.f a0 a1).bind fun bt304 => ((backfilllaw04_of.f bt304.1 bt304.2).bind fun bt306 => (if (t302 == bt306.1 && (t303 == bt306.2)) = true then ((fixq_Sub.f a0 a1).bind fun bt308 => ((backfilllaw04_of.f bt308.1 bt308.2).bind fun bt310 => ((backfillref04_Sub.f a0 a1).bind fun bt312 => ((backfilllaw04_of.f bt312.1 bt312.2).bind fun bt314 => (backfilllaw04_FixqTells.j0 k a0 a1 a2 t299 (bt310.1 == bt314.1 && (bt310.2 == bt314.2))))))) else (backfilllaw04_FixqTells.j0 k a0 a1 a2 t299 false)))) = some r := H
    have A8 := Aside0.mk A80
    clear A80
    replace H := Option.bind_eq_some_iff.mp H
    obtain ⟨⟨t304, t305⟩, A90, H⟩ := H
    replace H : ((backfilllaw04_of.f t304 t305).bind fun bt306 => (if (t302 == bt306.1 && (t303 == bt306.2)) = true then ((fixq_Sub.f a0 a1).bind fun bt308 => ((backfilllaw04_of.f bt308.1 bt308.2).bind fun bt310 => ((backfillref04_Sub.f a0 a1).bind fun bt312 => ((backfilllaw04_of.f bt312.1 bt312.2).bind fun bt314 => (backfilllaw04_FixqTells.j0 k a0 a1 a2 t299 (bt310.1 == bt314.1 && (bt310.2 == bt314.2))))))) else (backfilllaw04_FixqTells.j0 k a0 a1 a2 t299 false))) = some r := H
    have A9 := Aside0.mk A90
    clear A90
    replace H := Option.bind_eq_some_iff.mp H
    obtain ⟨⟨t306, t307⟩, A100, H⟩ := H
    replace H : (if (t302 == t306 && (t303 == t307)) = true then ((fixq_Sub.f a0 a1).bind fun bt308 => ((backfilllaw04_of.f bt308.1 bt308.2).bind fun bt310 => ((backfillref04_Sub.f a0 a1).bind fun bt312 => ((backfilllaw04_of.f bt312.1 bt312.2).bind fun bt314 => (backfilllaw04_FixqTells.j0 k a0 a1 a2 t299 (bt310.1 == bt314.1 && (bt310.2 == bt314.2))))))) else (backfilllaw04_FixqTells.j0 k a0 a1 a2 t299 false)) = some r := H
    have A10 := Aside0.mk A100
    clear A100
    by_cases c11 : (t302 == t306 && (t303 == t307)) = true
    · rw [if_pos c11] at H
      have c11b0 : (t302 == t306 && (t303 == t307)) = true := c11
      (try (have c11b1 : decide (t302 = t306 && (t303 == t307)) = true := by simpa using c11))
      (try (have c11b2 : (t302 == t306 && (t303 == t307)) = true := by simpa using c11))
      clear c11
      (first | rw [c11b0] | (simp only [i64_w, i32_w]; rw [c11b0]) | skip)
      replace H := Option.bind_eq_some_iff.mp H
      obtain ⟨⟨t308, t309⟩, A120, H⟩ := H
      replace H : ((backfilllaw04_of.f t308 t309).bind fun bt310 => ((backfillref04_Sub.f a0 a1).bind fun bt312 => ((backfilllaw04_of.f bt312.1 bt312.2).bind fun bt314 => (backfilllaw04_FixqTells.j0 k a0 a1 a2 t299 (bt310.1 == bt314.1 && (bt310.2 == bt314.2)))))) = some r := H
      have A12 := Aside0.mk A120
      clear A120
      replace H := Option.bind_eq_some_iff.mp H
      obtain ⟨⟨t310, t311⟩, A130, H⟩ := H
      replace H : ((backfillref04_Sub.f a0 a1).bind fun bt312 => ((backfilllaw04_of.f bt312.1 bt312.2).bind fun bt314 => (backfilllaw04_FixqTells.j0 k a0 a1 a2 t299 (t310 == bt314.1 && (t311 == bt314.2))))) = some r := H
      have A13 := Aside0.mk A130
      clear A130
      replace H := Option.bind_eq_some_iff.mp H
      obtain ⟨⟨t312, t313⟩, A140, H⟩ := H
      replace H : ((backfilllaw04_of.f t312 t313).bind fun bt314 => (backfilllaw04_FixqTells.j0 k a0 a1 a2 t299 (t310 == bt314.1 && (t311 == bt314.2)))) = some r := H
      have A14 := Aside0.mk A140
      clear A140
      replace H := Option.bind_eq_some_iff.mp H
      obtain ⟨⟨t314, t315⟩, A150, H⟩ := H
      replace H : (backfilllaw04_FixqTells.j0 k a0 a1 a2 t299 (t310 == t314 && (t311 == t315))) = some r := H
      have A15 := Aside0.mk A150
      clear A150
      have H' := Aside0.mk H
      clear H
      go_wp2_with (first | ((with_reducible refine gate_callee (f := 50) rfl ?_); refine goesL_ (some 14) rfl rfl Try.func50 (by kernel_rfl) rfl #[.int .u64 a0, .int .u64 a1] rfl aA ?_; (with_reducible refine (fixq_Add.calls a0 a1 t300 t301 _ A7.out).mono ?_); rintro e w16 ⟨rfl, hb⟩; refine ⟨_, rfl, ?_⟩; have n0_ := Aside0.mk (below_step bA hb); clear HB; have HB := n0_; clear n0_; (try clear hb); (try clear hb2); (try clear hk); (try clear hi)) | ((with_reducible refine gate_callee (f := 49) rfl ?_); refine goesL_ (some 17) rfl rfl Try.func49 (by kernel_rfl) rfl #[.int .u64 t300, .bool t301] rfl aA ?_; (with_reducible refine (backfilllaw04_of.calls t300 t301 t302 t303 _ A8.out).mono ?_); rintro e w17 ⟨rfl, hb⟩; refine ⟨_, rfl, ?_⟩; have n0_ := Aside0.mk (below_step bA hb); clear HB; have HB := n0_; clear n0_; (try clear hb); (try clear hb2); (try clear hk); (try clear hi)) | ((with_reducible refine gate_callee (f := 51) rfl ?_); refine goesL_ (some 20) rfl rfl Try.func51 (by kernel_rfl) rfl #[.int .u64 a0, .int .u64 a1] rfl aA ?_; (with_reducible refine (backfillref04_Add.calls a0 a1 t304 t305 _ A9.out).mono ?_); rintro e w18 ⟨rfl, hb⟩; refine ⟨_, rfl, ?_⟩; have n0_ := Aside0.mk (below_step bA hb); clear HB; have HB := n0_; clear n0_; (try clear hb); (try clear hb2); (try clear hk); (try clear hi)) | ((with_reducible refine gate_callee (f := 49) rfl ?_); refine goesL_ (some 23) rfl rfl Try.func49 (by kernel_rfl) rfl #[.int .u64 t304, .bool t305] rfl aA ?_; (with_reducible refine (backfilllaw04_of.calls t304 t305 t306 t307 _ A10.out).mono ?_); rintro e w19 ⟨rfl, hb⟩; refine ⟨_, rfl, ?_⟩; have n0_ := Aside0.mk (below_step bA hb); clear HB; have HB := n0_; clear n0_; (try clear hb); (try clear hb2); (try clear hk); (try clear hi)) | (go_at_call 52; (with_reducible refine (fixq_Sub.calls a0 a1 t308 t309 _ A12.out).mono ?_); rintro e w' ⟨rfl, ⟨nd, rfl⟩⟩) | (go_at_call 49; (with_reducible refine (backfilllaw04_of.calls t308 t309 t310 t311 _ A13.out).mono ?_); rintro e w20 ⟨rfl, hb⟩; have n0_ := Aside0.mk (below_step bA hb); clear HB; have HB := n0_; clear n0_; (try clear hb); (try clear hb2); (try clear hk); (try clear hi)) | (go_at_call 53; (with_reducible refine (backfillref04_Sub.calls a0 a1 t312 t313 _ A14.out).mono ?_); rintro e w' ⟨rfl, ⟨nd, rfl⟩⟩) | (go_at_call 49; (with_reducible refine (backfilllaw04_of.calls t312 t313 t314 t315 _ A15.out).mono ?_); rintro e w21 ⟨rfl, hb⟩; have n0_ := Aside0.mk (below_step bA hb); clear HB; have HB := n0_; clear n0_; (try clear hb); (try clear hb2); (try clear hk); (try clear hi)))
      go_meet
      case rel => exact ⟨_, ((t310 == t314 && (t311 == t315))), (by first | rfl | (simp; done) | (simp [*]; done)), H', ⟨by first | omega | exact Nat.le_refl _⟩, ⟨bA⟩⟩
    · rw [if_neg c11] at H
      have c11b0 : (t302 == t306 && (t303 == t307)) = false := by simpa using c11
      (try (have c11b1 : decide (t302 = t306 && (t303 == t307)) = false := by simpa using c11))
      (try (have c11b2 : (t302 == t306 && (t303 == t307)) = false := by simpa using c11))
      (try (have c11b3 : ¬ (t302 = t306 && (t303 == t307)) := by simpa using c11))
      clear c11
      (first | rw [c11b0] | (simp only [i64_w, i32_w]; rw [c11b0]) | skip)
      have H' := Aside0.mk H
      clear H
      go_wp2_with (first | ((with_reducible refine gate_callee (f := 50) rfl ?_); refine goesL_ (some 14) rfl rfl Try.func50 (by kernel_rfl) rfl #[.int .u64 a0, .int .u64 a1] rfl aA ?_; (with_reducible refine (fixq_Add.calls a0 a1 t300 t301 _ A7.out).mono ?_); rintro e w22 ⟨rfl, hb⟩; refine ⟨_, rfl, ?_⟩; have n0_ := Aside0.mk (below_step bA hb); clear HB; have HB := n0_; clear n0_; (try clear hb); (try clear hb2); (try clear hk); (try clear hi)) | ((with_reducible refine gate_callee (f := 49) rfl ?_); refine goesL_ (some 17) rfl rfl Try.func49 (by kernel_rfl) rfl #[.int .u64 t300, .bool t301] rfl aA ?_; (with_reducible refine (backfilllaw04_of.calls t300 t301 t302 t303 _ A8.out).mono ?_); rintro e w23 ⟨rfl, hb⟩; refine ⟨_, rfl, ?_⟩; have n0_ := Aside0.mk (below_step bA hb); clear HB; have HB := n0_; clear n0_; (try clear hb); (try clear hb2); (try clear hk); (try clear hi)) | ((with_reducible refine gate_callee (f := 51) rfl ?_); refine goesL_ (some 20) rfl rfl Try.func51 (by kernel_rfl) rfl #[.int .u64 a0, .int .u64 a1] rfl aA ?_; (with_reducible refine (backfillref04_Add.calls a0 a1 t304 t305 _ A9.out).mono ?_); rintro e w24 ⟨rfl, hb⟩; refine ⟨_, rfl, ?_⟩; have n0_ := Aside0.mk (below_step bA hb); clear HB; have HB := n0_; clear n0_; (try clear hb); (try clear hb2); (try clear hk); (try clear hi)) | ((with_reducible refine gate_callee (f := 49) rfl ?_); refine goesL_ (some 23) rfl rfl Try.func49 (by kernel_rfl) rfl #[.int .u64 t304, .bool t305] rfl aA ?_; (with_reducible refine (backfilllaw04_of.calls t304 t305 t306 t307 _ A10.out).mono ?_); rintro e w25 ⟨rfl, hb⟩; refine ⟨_, rfl, ?_⟩; have n0_ := Aside0.mk (below_step bA hb); clear HB; have HB := n0_; clear n0_; (try clear hb); (try clear hb2); (try clear hk); (try clear hi)))
      go_meet
      case rel => exact ⟨_, (false), (by first | rfl | (simp; done) | (simp [*]; done)), H', ⟨by first | omega | exact Nat.le_refl _⟩, ⟨bA⟩⟩
  case rest =>
    clear HC5
    try clear c1
    try clear p2
    try clear c4
    try clear c5
    try clear c9
    try clear c11
    try clear c11b0
    try clear c11b1
    try clear c11b2
    try clear c12
    obtain ⟨kq, x8_4, rfl, HA, HJ4, HB⟩ := hcut
    cases kq with
    | zero => exact absurd HA.out (by simp [backfilllaw04_FixqTells.j0])
    | succ kj4 =>
      have H := HA.out
      clear HA
      simp only [backfilllaw04_FixqTells.j0] at H
      have HC26 := Aside0.mk H
      clear H
      go_upto_region 3 with (fail)
      go_cut [9] (fun v9 wc => ∃ (kq : Nat) (x9_25 : Bool), v9 = .bool x9_25 ∧ Aside0 (backfilllaw04_FixqTells.j1 kq a0 a1 a2 t299 x8_4 x9_25 = some r) ∧ Aside0 (kq ≤ kj4) ∧ Aside0 (Below w.heap.size w wc))
      case first =>
        have H := HC26.out
        clear HC26
        replace H := Option.bind_eq_some_iff.mp H
        obtain ⟨⟨t316, t317⟩, A270, H⟩ := H
        replace H : ((backfilllaw04_of.f t316 t317).bind fun bt318 => ((backfillref04_MulDown.f kj4 a0 a1).bind fun bt320 => ((backfilllaw04_of.f bt320.1 bt320.2).bind fun bt322 => (if (bt318.1 == bt322.1 && (bt318.2 == bt322.2)) = true then ((fixq_MulUp.f kj4 a0 a1).bind fun bt324 => ((backfilllaw04_of.f bt324.1 bt324.2).bind fun bt326 => ((backfillref04_MulUp.f kj4 a0 a1).bind fun bt328 => ((backfilllaw04_of.f bt328.1 bt328.2).bind fun bt330 => (backfilllaw04_FixqTells.j1 kj4 a0 a1 a2 t299 x8_4 (bt326.1 == bt330.1 && (bt326.2 == bt330.2))))))) else (backfilllaw04_FixqTells.j1 kj4 a0 a1 a2 t299 x8_4 false))))) = some r := H
        have A27 := Aside0.mk A270
        clear A270
        replace H := Option.bind_eq_some_iff.mp H
        obtain ⟨⟨t318, t319⟩, A280, H⟩ := H
        replace H : ((backfillref04_MulDown.f kj4 a0 a1).bind fun bt320 => ((backfilllaw04_of.f bt320.1 bt320.2).bind fun bt322 => (if (t318 == bt322.1 && (t319 == bt322.2)) = true then ((fixq_MulUp.f kj4 a0 a1).bind fun bt324 => ((backfilllaw04_of.f bt324.1 bt324.2).bind fun bt326 => ((backfillref04_MulUp.f kj4 a0 a1).bind fun bt328 => ((backfilllaw04_of.f bt328.1 bt328.2).bind fun bt330 => (backfilllaw04_FixqTells.j1 kj4 a0 a1 a2 t299 x8_4 (bt326.1 == bt330.1 && (bt326.2 == bt330.2))))))) else (backfilllaw04_FixqTells.j1 kj4 a0 a1 a2 t299 x8_4 false)))) = some r := H
        have A28 := Aside0.mk A280
        clear A280
        replace H := Option.bind_eq_some_iff.mp H
        obtain ⟨⟨t320, t321⟩, A290, H⟩ := H
        replace H : ((backfilllaw04_of.f t320 t321).bind fun bt322 => (if (t318 == bt322.1 && (t319 == bt322.2)) = true then ((fixq_MulUp.f kj4 a0 a1).bind fun bt324 => ((backfilllaw04_of.f bt324.1 bt324.2).bind fun bt326 => ((backfillref04_MulUp.f kj4 a0 a1).bind fun bt328 => ((backfilllaw04_of.f bt328.1 bt328.2).bind fun bt330 => (backfilllaw04_FixqTells.j1 kj4 a0 a1 a2 t299 x8_4 (bt326.1 == bt330.1 && (bt326.2 == bt330.2))))))) else (backfilllaw04_FixqTells.j1 kj4 a0 a1 a2 t299 x8_4 false))) = some r := H
        have A29 := Aside0.mk A290
        clear A290
        replace H := Option.bind_eq_some_iff.mp H
        obtain ⟨⟨t322, t323⟩, A300, H⟩ := H
        replace H : (if (t318 == t322 && (t319 == t323)) = true then ((fixq_MulUp.f kj4 a0 a1).bind fun bt324 => ((backfilllaw04_of.f bt324.1 bt324.2).bind fun bt326 => ((backfillref04_MulUp.f kj4 a0 a1).bind fun bt328 => ((backfilllaw04_of.f bt328.1 bt328.2).bind fun bt330 => (backfilllaw04_FixqTells.j1 kj4 a0 a1 a2 t299 x8_4 (bt326.1 == bt330.1 && (bt326.2 == bt330.2))))))) else (backfilllaw04_FixqTells.j1 kj4 a0 a1 a2 t299 x8_4 false)) = some r := H
        have A30 := Aside0.mk A300
        clear A300
        by_cases c31 : (t318 == t322 && (t319 == t323)) = true
        · rw [if_pos c31] at H
          have c31b0 : (t318 == t322 && (t319 == t323)) = true := c31
          (try (have c31b1 : decide (t318 = t322 && (t319 == t323)) = true := by simpa using c31))
          (try (have c31b2 : (t318 == t322 && (t319 == t323)) = true := by simpa using c31))
          clear c31
          (first | rw [c31b0] | (simp only [i64_w, i32_w]; rw [c31b0]) | skip)
          replace H := Option.bind_eq_some_iff.mp H
          obtain ⟨⟨t324, t325⟩, A320, H⟩ := H
          replace H : ((backfilllaw04_of.f t324 t325).bind fun bt326 => ((backfillref04_MulUp.f kj4 a0 a1).bind fun bt328 => ((backfilllaw04_of.f bt328.1 bt328.2).bind fun bt330 => (backfilllaw04_FixqTells.j1 kj4 a0 a1 a2 t299 x8_4 (bt326.1 == bt330.1 && (bt326.2 == bt330.2)))))) = some r := H
          have A32 := Aside0.mk A320
          clear A320
          replace H := Option.bind_eq_some_iff.mp H
          obtain ⟨⟨t326, t327⟩, A330, H⟩ := H
          replace H : ((backfillref04_MulUp.f kj4 a0 a1).bind fun bt328 => ((backfilllaw04_of.f bt328.1 bt328.2).bind fun bt330 => (backfilllaw04_FixqTells.j1 kj4 a0 a1 a2 t299 x8_4 (t326 == bt330.1 && (t327 == bt330.2))))) = some r := H
          have A33 := Aside0.mk A330
          clear A330
          replace H := Option.bind_eq_some_iff.mp H
          obtain ⟨⟨t328, t329⟩, A340, H⟩ := H
          replace H : ((backfilllaw04_of.f t328 t329).bind fun bt330 => (backfilllaw04_FixqTells.j1 kj4 a0 a1 a2 t299 x8_4 (t326 == bt330.1 && (t327 == bt330.2)))) = some r := H
          have A34 := Aside0.mk A340
          clear A340
          replace H := Option.bind_eq_some_iff.mp H
          obtain ⟨⟨t330, t331⟩, A350, H⟩ := H
          replace H : (backfilllaw04_FixqTells.j1 kj4 a0 a1 a2 t299 x8_4 (t326 == t330 && (t327 == t331))) = some r := H
          have A35 := Aside0.mk A350
          clear A350
          have H' := Aside0.mk H
          clear H
          go_wp2_with (first | ((with_reducible refine gate_callee (f := 54) rfl ?_); refine goesL_ (some 42) rfl rfl Try.func54 (by kernel_rfl) rfl #[.int .u64 a0, .int .u64 a1] rfl aA ?_; (with_reducible refine (fixq_MulDown.calls kj4 a0 a1 t316 t317 _ A27.out).mono ?_); rintro e w36 ⟨rfl, hb⟩; refine ⟨_, rfl, ?_⟩; have n0_ := Aside0.mk (below_step bA hb); clear HB; have HB := n0_; clear n0_; (try clear hb); (try clear hb2); (try clear hk); (try clear hi)) | ((with_reducible refine gate_callee (f := 49) rfl ?_); refine goesL_ (some 45) rfl rfl Try.func49 (by kernel_rfl) rfl #[.int .u64 t316, .bool t317] rfl aA ?_; (with_reducible refine (backfilllaw04_of.calls t316 t317 t318 t319 _ A28.out).mono ?_); rintro e w37 ⟨rfl, hb⟩; refine ⟨_, rfl, ?_⟩; have n0_ := Aside0.mk (below_step bA hb); clear HB; have HB := n0_; clear n0_; (try clear hb); (try clear hb2); (try clear hk); (try clear hi)) | ((with_reducible refine gate_callee (f := 55) rfl ?_); refine goesL_ (some 48) rfl rfl Try.func55 (by kernel_rfl) rfl #[.int .u64 a0, .int .u64 a1] rfl aA ?_; (with_reducible refine (backfillref04_MulDown.calls kj4 a0 a1 t320 t321 _ A29.out).mono ?_); rintro e w38 ⟨rfl, hb⟩; refine ⟨_, rfl, ?_⟩; have n0_ := Aside0.mk (below_step bA hb); clear HB; have HB := n0_; clear n0_; (try clear hb); (try clear hb2); (try clear hk); (try clear hi)) | ((with_reducible refine gate_callee (f := 49) rfl ?_); refine goesL_ (some 51) rfl rfl Try.func49 (by kernel_rfl) rfl #[.int .u64 t320, .bool t321] rfl aA ?_; (with_reducible refine (backfilllaw04_of.calls t320 t321 t322 t323 _ A30.out).mono ?_); rintro e w39 ⟨rfl, hb⟩; refine ⟨_, rfl, ?_⟩; have n0_ := Aside0.mk (below_step bA hb); clear HB; have HB := n0_; clear n0_; (try clear hb); (try clear hb2); (try clear hk); (try clear hi)) | (go_at_call 56; (with_reducible refine (fixq_MulUp.calls kj4 a0 a1 t324 t325 _ A32.out).mono ?_); rintro e w40 ⟨rfl, hb⟩; have n0_ := Aside0.mk (below_step bA hb); clear HB; have HB := n0_; clear n0_; (try clear hb); (try clear hb2); (try clear hk); (try clear hi)) | (go_at_call 49; (with_reducible refine (backfilllaw04_of.calls t324 t325 t326 t327 _ A33.out).mono ?_); rintro e w41 ⟨rfl, hb⟩; have n0_ := Aside0.mk (below_step bA hb); clear HB; have HB := n0_; clear n0_; (try clear hb); (try clear hb2); (try clear hk); (try clear hi)) | (go_at_call 57; (with_reducible refine (backfillref04_MulUp.calls kj4 a0 a1 t328 t329 _ A34.out).mono ?_); rintro e w42 ⟨rfl, hb⟩; have n0_ := Aside0.mk (below_step bA hb); clear HB; have HB := n0_; clear n0_; (try clear hb); (try clear hb2); (try clear hk); (try clear hi)) | (go_at_call 49; (with_reducible refine (backfilllaw04_of.calls t328 t329 t330 t331 _ A35.out).mono ?_); rintro e w43 ⟨rfl, hb⟩; have n0_ := Aside0.mk (below_step bA hb); clear HB; have HB := n0_; clear n0_; (try clear hb); (try clear hb2); (try clear hk); (try clear hi)))
          go_meet
          case rel => exact ⟨_, ((t326 == t330 && (t327 == t331))), (by first | rfl | (simp; done) | (simp [*]; done)), H', ⟨by have := HJ4.out; first | omega | exact Nat.le_refl _⟩, ⟨bA⟩⟩
        · rw [if_neg c31] at H
          have c31b0 : (t318 == t322 && (t319 == t323)) = false := by simpa using c31
          (try (have c31b1 : decide (t318 = t322 && (t319 == t323)) = false := by simpa using c31))
          (try (have c31b2 : (t318 == t322 && (t319 == t323)) = false := by simpa using c31))
          (try (have c31b3 : ¬ (t318 = t322 && (t319 == t323)) := by simpa using c31))
          clear c31
          (first | rw [c31b0] | (simp only [i64_w, i32_w]; rw [c31b0]) | skip)
          have H' := Aside0.mk H
          clear H
          go_wp2_with (first | ((with_reducible refine gate_callee (f := 54) rfl ?_); refine goesL_ (some 42) rfl rfl Try.func54 (by kernel_rfl) rfl #[.int .u64 a0, .int .u64 a1] rfl aA ?_; (with_reducible refine (fixq_MulDown.calls kj4 a0 a1 t316 t317 _ A27.out).mono ?_); rintro e w44 ⟨rfl, hb⟩; refine ⟨_, rfl, ?_⟩; have n0_ := Aside0.mk (below_step bA hb); clear HB; have HB := n0_; clear n0_; (try clear hb); (try clear hb2); (try clear hk); (try clear hi)) | ((with_reducible refine gate_callee (f := 49) rfl ?_); refine goesL_ (some 45) rfl rfl Try.func49 (by kernel_rfl) rfl #[.int .u64 t316, .bool t317] rfl aA ?_; (with_reducible refine (backfilllaw04_of.calls t316 t317 t318 t319 _ A28.out).mono ?_); rintro e w45 ⟨rfl, hb⟩; refine ⟨_, rfl, ?_⟩; have n0_ := Aside0.mk (below_step bA hb); clear HB; have HB := n0_; clear n0_; (try clear hb); (try clear hb2); (try clear hk); (try clear hi)) | ((with_reducible refine gate_callee (f := 55) rfl ?_); refine goesL_ (some 48) rfl rfl Try.func55 (by kernel_rfl) rfl #[.int .u64 a0, .int .u64 a1] rfl aA ?_; (with_reducible refine (backfillref04_MulDown.calls kj4 a0 a1 t320 t321 _ A29.out).mono ?_); rintro e w46 ⟨rfl, hb⟩; refine ⟨_, rfl, ?_⟩; have n0_ := Aside0.mk (below_step bA hb); clear HB; have HB := n0_; clear n0_; (try clear hb); (try clear hb2); (try clear hk); (try clear hi)) | ((with_reducible refine gate_callee (f := 49) rfl ?_); refine goesL_ (some 51) rfl rfl Try.func49 (by kernel_rfl) rfl #[.int .u64 t320, .bool t321] rfl aA ?_; (with_reducible refine (backfilllaw04_of.calls t320 t321 t322 t323 _ A30.out).mono ?_); rintro e w47 ⟨rfl, hb⟩; refine ⟨_, rfl, ?_⟩; have n0_ := Aside0.mk (below_step bA hb); clear HB; have HB := n0_; clear n0_; (try clear hb); (try clear hb2); (try clear hk); (try clear hi)))
          go_meet
          case rel => exact ⟨_, (false), (by first | rfl | (simp; done) | (simp [*]; done)), H', ⟨by have := HJ4.out; first | omega | exact Nat.le_refl _⟩, ⟨bA⟩⟩
      case rest =>
        clear HC26
        try clear c1
        try clear p2
        try clear c3
        try clear c4
        try clear c5
        try clear c9
        try clear c11
        try clear c11b0
        try clear c11b1
        try clear c11b2
        try clear c12
        try clear c31
        try clear c31b0
        try clear c31b1
        try clear c31b2
        try clear p2
        obtain ⟨kq, x9_25, rfl, HA, HJ25, HB⟩ := hcut
        cases kq with
        | zero => exact absurd HA.out (by simp [backfilllaw04_FixqTells.j1])
        | succ kj25 =>
          have H := HA.out
          clear HA
          simp only [backfilllaw04_FixqTells.j1] at H
          have HC48 := Aside0.mk H
          clear H
          go_upto_region 4 with (fail)
          go_cut [10] (fun v10 wc => ∃ (kq : Nat) (x10_47 : Bool), v10 = .bool x10_47 ∧ Aside0 (backfilllaw04_FixqTells.j2 kq a0 a1 a2 t299 x8_4 x9_25 x10_47 = some r) ∧ Aside0 (kq ≤ kj25) ∧ Aside0 (Below w.heap.size w wc))
          case first =>
            have H := HC48.out
            clear HC48
            replace H := Option.bind_eq_some_iff.mp H
            obtain ⟨⟨t332, t333⟩, A490, H⟩ := H
            replace H : ((backfilllaw04_of.f t332 t333).bind fun bt334 => ((backfillref04_DivDown.f kj25 a0 a1).bind fun bt336 => ((backfilllaw04_of.f bt336.1 bt336.2).bind fun bt338 => (if (bt334.1 == bt338.1 && (bt334.2 == bt338.2)) = true then ((fixq_DivUp.f kj25 a0 a1).bind fun bt340 => ((backfilllaw04_of.f bt340.1 bt340.2).bind fun bt342 => ((backfillref04_DivUp.f kj25 a0 a1).bind fun bt344 => ((backfilllaw04_of.f bt344.1 bt344.2).bind fun bt346 => (backfilllaw04_FixqTells.j2 kj25 a0 a1 a2 t299 x8_4 x9_25 (bt342.1 == bt346.1 && (bt342.2 == bt346.2))))))) else (backfilllaw04_FixqTells.j2 kj25 a0 a1 a2 t299 x8_4 x9_25 false))))) = some r := H
            have A49 := Aside0.mk A490
            clear A490
            replace H := Option.bind_eq_some_iff.mp H
            obtain ⟨⟨t334, t335⟩, A500, H⟩ := H
            replace H : ((backfillref04_DivDown.f kj25 a0 a1).bind fun bt336 => ((backfilllaw04_of.f bt336.1 bt336.2).bind fun bt338 => (if (t334 == bt338.1 && (t335 == bt338.2)) = true then ((fixq_DivUp.f kj25 a0 a1).bind fun bt340 => ((backfilllaw04_of.f bt340.1 bt340.2).bind fun bt342 => ((backfillref04_DivUp.f kj25 a0 a1).bind fun bt344 => ((backfilllaw04_of.f bt344.1 bt344.2).bind fun bt346 => (backfilllaw04_FixqTells.j2 kj25 a0 a1 a2 t299 x8_4 x9_25 (bt342.1 == bt346.1 && (bt342.2 == bt346.2))))))) else (backfilllaw04_FixqTells.j2 kj25 a0 a1 a2 t299 x8_4 x9_25 false)))) = some r := H
            have A50 := Aside0.mk A500
            clear A500
            replace H := Option.bind_eq_some_iff.mp H
            obtain ⟨⟨t336, t337⟩, A510, H⟩ := H
            replace H : ((backfilllaw04_of.f t336 t337).bind fun bt338 => (if (t334 == bt338.1 && (t335 == bt338.2)) = true then ((fixq_DivUp.f kj25 a0 a1).bind fun bt340 => ((backfilllaw04_of.f bt340.1 bt340.2).bind fun bt342 => ((backfillref04_DivUp.f kj25 a0 a1).bind fun bt344 => ((backfilllaw04_of.f bt344.1 bt344.2).bind fun bt346 => (backfilllaw04_FixqTells.j2 kj25 a0 a1 a2 t299 x8_4 x9_25 (bt342.1 == bt346.1 && (bt342.2 == bt346.2))))))) else (backfilllaw04_FixqTells.j2 kj25 a0 a1 a2 t299 x8_4 x9_25 false))) = some r := H
            have A51 := Aside0.mk A510
            clear A510
            replace H := Option.bind_eq_some_iff.mp H
            obtain ⟨⟨t338, t339⟩, A520, H⟩ := H
            replace H : (if (t334 == t338 && (t335 == t339)) = true then ((fixq_DivUp.f kj25 a0 a1).bind fun bt340 => ((backfilllaw04_of.f bt340.1 bt340.2).bind fun bt342 => ((backfillref04_DivUp.f kj25 a0 a1).bind fun bt344 => ((backfilllaw04_of.f bt344.1 bt344.2).bind fun bt346 => (backfilllaw04_FixqTells.j2 kj25 a0 a1 a2 t299 x8_4 x9_25 (bt342.1 == bt346.1 && (bt342.2 == bt346.2))))))) else (backfilllaw04_FixqTells.j2 kj25 a0 a1 a2 t299 x8_4 x9_25 false)) = some r := H
            have A52 := Aside0.mk A520
            clear A520
            by_cases c53 : (t334 == t338 && (t335 == t339)) = true
            · rw [if_pos c53] at H
              have c53b0 : (t334 == t338 && (t335 == t339)) = true := c53
              (try (have c53b1 : decide (t334 = t338 && (t335 == t339)) = true := by simpa using c53))
              (try (have c53b2 : (t334 == t338 && (t335 == t339)) = true := by simpa using c53))
              clear c53
              (first | rw [c53b0] | (simp only [i64_w, i32_w]; rw [c53b0]) | skip)
              replace H := Option.bind_eq_some_iff.mp H
              obtain ⟨⟨t340, t341⟩, A540, H⟩ := H
              replace H : ((backfilllaw04_of.f t340 t341).bind fun bt342 => ((backfillref04_DivUp.f kj25 a0 a1).bind fun bt344 => ((backfilllaw04_of.f bt344.1 bt344.2).bind fun bt346 => (backfilllaw04_FixqTells.j2 kj25 a0 a1 a2 t299 x8_4 x9_25 (bt342.1 == bt346.1 && (bt342.2 == bt346.2)))))) = some r := H
              have A54 := Aside0.mk A540
              clear A540
              replace H := Option.bind_eq_some_iff.mp H
              obtain ⟨⟨t342, t343⟩, A550, H⟩ := H
              replace H : ((backfillref04_DivUp.f kj25 a0 a1).bind fun bt344 => ((backfilllaw04_of.f bt344.1 bt344.2).bind fun bt346 => (backfilllaw04_FixqTells.j2 kj25 a0 a1 a2 t299 x8_4 x9_25 (t342 == bt346.1 && (t343 == bt346.2))))) = some r := H
              have A55 := Aside0.mk A550
              clear A550
              replace H := Option.bind_eq_some_iff.mp H
              obtain ⟨⟨t344, t345⟩, A560, H⟩ := H
              replace H : ((backfilllaw04_of.f t344 t345).bind fun bt346 => (backfilllaw04_FixqTells.j2 kj25 a0 a1 a2 t299 x8_4 x9_25 (t342 == bt346.1 && (t343 == bt346.2)))) = some r := H
              have A56 := Aside0.mk A560
              clear A560
              replace H := Option.bind_eq_some_iff.mp H
              obtain ⟨⟨t346, t347⟩, A570, H⟩ := H
              replace H : (backfilllaw04_FixqTells.j2 kj25 a0 a1 a2 t299 x8_4 x9_25 (t342 == t346 && (t343 == t347))) = some r := H
              have A57 := Aside0.mk A570
              clear A570
              have H' := Aside0.mk H
              clear H
              go_wp2_with (first | ((with_reducible refine gate_callee (f := 58) rfl ?_); refine goesL_ (some 70) rfl rfl Try.func58 (by kernel_rfl) rfl #[.int .u64 a0, .int .u64 a1] rfl aA ?_; (with_reducible refine (fixq_DivDown.calls kj25 a0 a1 t332 t333 _ A49.out).mono ?_); rintro e w58 ⟨rfl, hb⟩; refine ⟨_, rfl, ?_⟩; have n0_ := Aside0.mk (below_step bA hb); clear HB; have HB := n0_; clear n0_; (try clear hb); (try clear hb2); (try clear hk); (try clear hi)) | ((with_reducible refine gate_callee (f := 49) rfl ?_); refine goesL_ (some 73) rfl rfl Try.func49 (by kernel_rfl) rfl #[.int .u64 t332, .bool t333] rfl aA ?_; (with_reducible refine (backfilllaw04_of.calls t332 t333 t334 t335 _ A50.out).mono ?_); rintro e w59 ⟨rfl, hb⟩; refine ⟨_, rfl, ?_⟩; have n0_ := Aside0.mk (below_step bA hb); clear HB; have HB := n0_; clear n0_; (try clear hb); (try clear hb2); (try clear hk); (try clear hi)) | ((with_reducible refine gate_callee (f := 59) rfl ?_); refine goesL_ (some 76) rfl rfl Try.func59 (by kernel_rfl) rfl #[.int .u64 a0, .int .u64 a1] rfl aA ?_; (with_reducible refine (backfillref04_DivDown.calls kj25 a0 a1 t336 t337 _ A51.out).mono ?_); rintro e w60 ⟨rfl, hb⟩; refine ⟨_, rfl, ?_⟩; have n0_ := Aside0.mk (below_step bA hb); clear HB; have HB := n0_; clear n0_; (try clear hb); (try clear hb2); (try clear hk); (try clear hi)) | ((with_reducible refine gate_callee (f := 49) rfl ?_); refine goesL_ (some 79) rfl rfl Try.func49 (by kernel_rfl) rfl #[.int .u64 t336, .bool t337] rfl aA ?_; (with_reducible refine (backfilllaw04_of.calls t336 t337 t338 t339 _ A52.out).mono ?_); rintro e w61 ⟨rfl, hb⟩; refine ⟨_, rfl, ?_⟩; have n0_ := Aside0.mk (below_step bA hb); clear HB; have HB := n0_; clear n0_; (try clear hb); (try clear hb2); (try clear hk); (try clear hi)) | (go_at_call 60; (with_reducible refine (fixq_DivUp.calls kj25 a0 a1 t340 t341 _ A54.out).mono ?_); rintro e w62 ⟨rfl, hb⟩; have n0_ := Aside0.mk (below_step bA hb); clear HB; have HB := n0_; clear n0_; (try clear hb); (try clear hb2); (try clear hk); (try clear hi)) | (go_at_call 49; (with_reducible refine (backfilllaw04_of.calls t340 t341 t342 t343 _ A55.out).mono ?_); rintro e w63 ⟨rfl, hb⟩; have n0_ := Aside0.mk (below_step bA hb); clear HB; have HB := n0_; clear n0_; (try clear hb); (try clear hb2); (try clear hk); (try clear hi)) | (go_at_call 61; (with_reducible refine (backfillref04_DivUp.calls kj25 a0 a1 t344 t345 _ A56.out).mono ?_); rintro e w64 ⟨rfl, hb⟩; have n0_ := Aside0.mk (below_step bA hb); clear HB; have HB := n0_; clear n0_; (try clear hb); (try clear hb2); (try clear hk); (try clear hi)) | (go_at_call 49; (with_reducible refine (backfilllaw04_of.calls t344 t345 t346 t347 _ A57.out).mono ?_); rintro e w65 ⟨rfl, hb⟩; have n0_ := Aside0.mk (below_step bA hb); clear HB; have HB := n0_; clear n0_; (try clear hb); (try clear hb2); (try clear hk); (try clear hi)))
              go_meet
              case rel => exact ⟨_, ((t342 == t346 && (t343 == t347))), (by first | rfl | (simp; done) | (simp [*]; done)), H', ⟨by have := HJ4.out; have := HJ25.out; first | omega | exact Nat.le_refl _⟩, ⟨bA⟩⟩
            · rw [if_neg c53] at H
              have c53b0 : (t334 == t338 && (t335 == t339)) = false := by simpa using c53
              (try (have c53b1 : decide (t334 = t338 && (t335 == t339)) = false := by simpa using c53))
              (try (have c53b2 : (t334 == t338 && (t335 == t339)) = false := by simpa using c53))
              (try (have c53b3 : ¬ (t334 = t338 && (t335 == t339)) := by simpa using c53))
              clear c53
              (first | rw [c53b0] | (simp only [i64_w, i32_w]; rw [c53b0]) | skip)
              have H' := Aside0.mk H
              clear H
              go_wp2_with (first | ((with_reducible refine gate_callee (f := 58) rfl ?_); refine goesL_ (some 70) rfl rfl Try.func58 (by kernel_rfl) rfl #[.int .u64 a0, .int .u64 a1] rfl aA ?_; (with_reducible refine (fixq_DivDown.calls kj25 a0 a1 t332 t333 _ A49.out).mono ?_); rintro e w66 ⟨rfl, hb⟩; refine ⟨_, rfl, ?_⟩; have n0_ := Aside0.mk (below_step bA hb); clear HB; have HB := n0_; clear n0_; (try clear hb); (try clear hb2); (try clear hk); (try clear hi)) | ((with_reducible refine gate_callee (f := 49) rfl ?_); refine goesL_ (some 73) rfl rfl Try.func49 (by kernel_rfl) rfl #[.int .u64 t332, .bool t333] rfl aA ?_; (with_reducible refine (backfilllaw04_of.calls t332 t333 t334 t335 _ A50.out).mono ?_); rintro e w67 ⟨rfl, hb⟩; refine ⟨_, rfl, ?_⟩; have n0_ := Aside0.mk (below_step bA hb); clear HB; have HB := n0_; clear n0_; (try clear hb); (try clear hb2); (try clear hk); (try clear hi)) | ((with_reducible refine gate_callee (f := 59) rfl ?_); refine goesL_ (some 76) rfl rfl Try.func59 (by kernel_rfl) rfl #[.int .u64 a0, .int .u64 a1] rfl aA ?_; (with_reducible refine (backfillref04_DivDown.calls kj25 a0 a1 t336 t337 _ A51.out).mono ?_); rintro e w68 ⟨rfl, hb⟩; refine ⟨_, rfl, ?_⟩; have n0_ := Aside0.mk (below_step bA hb); clear HB; have HB := n0_; clear n0_; (try clear hb); (try clear hb2); (try clear hk); (try clear hi)) | ((with_reducible refine gate_callee (f := 49) rfl ?_); refine goesL_ (some 79) rfl rfl Try.func49 (by kernel_rfl) rfl #[.int .u64 t336, .bool t337] rfl aA ?_; (with_reducible refine (backfilllaw04_of.calls t336 t337 t338 t339 _ A52.out).mono ?_); rintro e w69 ⟨rfl, hb⟩; refine ⟨_, rfl, ?_⟩; have n0_ := Aside0.mk (below_step bA hb); clear HB; have HB := n0_; clear n0_; (try clear hb); (try clear hb2); (try clear hk); (try clear hi)))
              go_meet
              case rel => exact ⟨_, (false), (by first | rfl | (simp; done) | (simp [*]; done)), H', ⟨by have := HJ4.out; have := HJ25.out; first | omega | exact Nat.le_refl _⟩, ⟨bA⟩⟩
          case rest =>
            clear HC48
            try clear c1
            try clear p2
            try clear c3
            try clear c4
            try clear c5
            try clear c9
            try clear c11
            try clear c11b0
            try clear c11b1
            try clear c11b2
            try clear c12
            try clear c31
            try clear c31b0
            try clear c31b1
            try clear c31b2
            try clear c49
            try clear c50
            try clear c51
            try clear c53
            try clear c53b0
            try clear c53b1
            try clear c53b2
            try clear c54
            try clear c55
            try clear c58
            try clear c59
            try clear p2
            obtain ⟨kq, x10_47, rfl, HA, HJ47, HB⟩ := hcut
            cases kq with
            | zero => exact absurd HA.out (by simp [backfilllaw04_FixqTells.j2])
            | succ kj47 =>
              have H := HA.out
              clear HA
              simp only [backfilllaw04_FixqTells.j2] at H
              by_cases c70 : t299 = true
              · subst c70
                have H1 : (if x8_4 = true then (if x9_25 = true then (if x10_47 = true then ((fixq_Of.f a2).bind fun bt348 => ((backfilllaw04_of.f bt348.1 bt348.2).bind fun bt350 => ((backfillref04_Of.f a2).bind fun bt352 => ((backfilllaw04_of.f bt352.1 bt352.2).bind fun bt354 => (if (bt350.1 == bt354.1 && (bt350.2 == bt354.2)) = true then ((fixq_Floor.f a0).bind fun t356 => ((backfillref04_Floor.f a0).bind fun t357 => (if t356 = t357 then ((fixq_Part.f a0 a1).bind fun t358 => ((backfillref04_Part.f kj47 a0 a1).bind fun t359 => (some (t358 == t359)))) else (some false)))) else (some false)))))) else (some false)) else (some false)) else (some false)) = some r := by rw [if_pos rfl] at H; exact H
                clear H
                have H := H1
                clear H1
                by_cases c71 : x8_4 = true
                · subst c71
                  have H1 : (if x9_25 = true then (if x10_47 = true then ((fixq_Of.f a2).bind fun bt348 => ((backfilllaw04_of.f bt348.1 bt348.2).bind fun bt350 => ((backfillref04_Of.f a2).bind fun bt352 => ((backfilllaw04_of.f bt352.1 bt352.2).bind fun bt354 => (if (bt350.1 == bt354.1 && (bt350.2 == bt354.2)) = true then ((fixq_Floor.f a0).bind fun t356 => ((backfillref04_Floor.f a0).bind fun t357 => (if t356 = t357 then ((fixq_Part.f a0 a1).bind fun t358 => ((backfillref04_Part.f kj47 a0 a1).bind fun t359 => (some (t358 == t359)))) else (some false)))) else (some false)))))) else (some false)) else (some false)) = some r := by rw [if_pos rfl] at H; exact H
                  clear H
                  have H := H1
                  clear H1
                  by_cases c72 : x9_25 = true
                  · subst c72
                    have H1 : (if x10_47 = true then ((fixq_Of.f a2).bind fun bt348 => ((backfilllaw04_of.f bt348.1 bt348.2).bind fun bt350 => ((backfillref04_Of.f a2).bind fun bt352 => ((backfilllaw04_of.f bt352.1 bt352.2).bind fun bt354 => (if (bt350.1 == bt354.1 && (bt350.2 == bt354.2)) = true then ((fixq_Floor.f a0).bind fun t356 => ((backfillref04_Floor.f a0).bind fun t357 => (if t356 = t357 then ((fixq_Part.f a0 a1).bind fun t358 => ((backfillref04_Part.f kj47 a0 a1).bind fun t359 => (some (t358 == t359)))) else (some false)))) else (some false)))))) else (some false)) = some r := by rw [if_pos rfl] at H; exact H
                    clear H
                    have H := H1
                    clear H1
                    by_cases c73 : x10_47 = true
                    · subst c73
                      have H1 : ((fixq_Of.f a2).bind fun bt348 => ((backfilllaw04_of.f bt348.1 bt348.2).bind fun bt350 => ((backfillref04_Of.f a2).bind fun bt352 => ((backfilllaw04_of.f bt352.1 bt352.2).bind fun bt354 => (if (bt350.1 == bt354.1 && (bt350.2 == bt354.2)) = true then ((fixq_Floor.f a0).bind fun t356 => ((backfillref04_Floor.f a0).bind fun t357 => (if t356 = t357 then ((fixq_Part.f a0 a1).bind fun t358 => ((backfillref04_Part.f kj47 a0 a1).bind fun t359 => (some (t358 == t359)))) else (some false)))) else (some false)))))) = some r := by rw [if_pos rfl] at H; exact H
                      clear H
                      have H := H1
                      clear H1
                      replace H := Option.bind_eq_some_iff.mp H
                      obtain ⟨⟨t348, t349⟩, A740, H⟩ := H
                      replace H : ((backfilllaw04_of.f t348 t349).bind fun bt350 => ((backfillref04_Of.f a2).bind fun bt352 => ((backfilllaw04_of.f bt352.1 bt352.2).bind fun bt354 => (if (bt350.1 == bt354.1 && (bt350.2 == bt354.2)) = true then ((fixq_Floor.f a0).bind fun t356 => ((backfillref04_Floor.f a0).bind fun t357 => (if t356 = t357 then ((fixq_Part.f a0 a1).bind fun t358 => ((backfillref04_Part.f kj47 a0 a1).bind fun t359 => (some (t358 == t359)))) else (some false)))) else (some false))))) = some r := H
                      have A74 := Aside0.mk A740
                      clear A740
                      replace H := Option.bind_eq_some_iff.mp H
                      obtain ⟨⟨t350, t351⟩, A750, H⟩ := H
                      replace H : ((backfillref04_Of.f a2).bind fun bt352 => ((backfilllaw04_of.f bt352.1 bt352.2).bind fun bt354 => (if (t350 == bt354.1 && (t351 == bt354.2)) = true then ((fixq_Floor.f a0).bind fun t356 => ((backfillref04_Floor.f a0).bind fun t357 => (if t356 = t357 then ((fixq_Part.f a0 a1).bind fun t358 => ((backfillref04_Part.f kj47 a0 a1).bind fun t359 => (some (t358 == t359)))) else (some false)))) else (some false)))) = some r := H
                      have A75 := Aside0.mk A750
                      clear A750
                      replace H := Option.bind_eq_some_iff.mp H
                      obtain ⟨⟨t352, t353⟩, A760, H⟩ := H
                      replace H : ((backfilllaw04_of.f t352 t353).bind fun bt354 => (if (t350 == bt354.1 && (t351 == bt354.2)) = true then ((fixq_Floor.f a0).bind fun t356 => ((backfillref04_Floor.f a0).bind fun t357 => (if t356 = t357 then ((fixq_Part.f a0 a1).bind fun t358 => ((backfillref04_Part.f kj47 a0 a1).bind fun t359 => (some (t358 == t359)))) else (some false)))) else (some false))) = some r := H
                      have A76 := Aside0.mk A760
                      clear A760
                      replace H := Option.bind_eq_some_iff.mp H
                      obtain ⟨⟨t354, t355⟩, A770, H⟩ := H
                      replace H : (if (t350 == t354 && (t351 == t355)) = true then ((fixq_Floor.f a0).bind fun t356 => ((backfillref04_Floor.f a0).bind fun t357 => (if t356 = t357 then ((fixq_Part.f a0 a1).bind fun t358 => ((backfillref04_Part.f kj47 a0 a1).bind fun t359 => (some (t358 == t359)))) else (some false)))) else (some false)) = some r := H
                      have A77 := Aside0.mk A770
                      clear A770
                      by_cases c78 : (t350 == t354 && (t351 == t355)) = true
                      · rw [if_pos c78] at H
                        have c78b0 : (t350 == t354 && (t351 == t355)) = true := c78
                        (try (have c78b1 : decide (t350 = t354 && (t351 == t355)) = true := by simpa using c78))
                        (try (have c78b2 : (t350 == t354 && (t351 == t355)) = true := by simpa using c78))
                        clear c78
                        replace H := Option.bind_eq_some_iff.mp H
                        obtain ⟨t356, A790, H⟩ := H
                        replace H : ((backfillref04_Floor.f a0).bind fun t357 => (if t356 = t357 then ((fixq_Part.f a0 a1).bind fun t358 => ((backfillref04_Part.f kj47 a0 a1).bind fun t359 => (some (t358 == t359)))) else (some false))) = some r := H
                        have A79 := Aside0.mk A790
                        clear A790
                        replace H := Option.bind_eq_some_iff.mp H
                        obtain ⟨t357, A800, H⟩ := H
                        replace H : (if t356 = t357 then ((fixq_Part.f a0 a1).bind fun t358 => ((backfillref04_Part.f kj47 a0 a1).bind fun t359 => (some (t358 == t359)))) else (some false)) = some r := H
                        have A80 := Aside0.mk A800
                        clear A800
                        by_cases c81 : t356 = t357
                        · rw [if_pos c81] at H
                          have c81b0 : (t356 == t357) = true := beq_iff_eq.mpr c81
                          have c81b1 : (t356 != t357) = false := bne_eq_false_iff_eq.mpr c81
                          clear c81
                          replace H := Option.bind_eq_some_iff.mp H
                          obtain ⟨t358, A820, H⟩ := H
                          replace H : ((backfillref04_Part.f kj47 a0 a1).bind fun t359 => (some (t358 == t359))) = some r := H
                          have A82 := Aside0.mk A820
                          clear A820
                          replace H := Option.bind_eq_some_iff.mp H
                          obtain ⟨t359, A830, H⟩ := H
                          replace H : (some (t358 == t359)) = some r := H
                          have A83 := Aside0.mk A830
                          clear A830
                          obtain rfl := Option.some.inj H
                          go_wp2_with (first | (go_at_call 62; (with_reducible refine (fixq_Of.calls a2 t348 t349 _ A74.out).mono ?_); rintro e w84 ⟨rfl, hb⟩; have n0_ := Aside0.mk (below_step bA hb); clear HB; have HB := n0_; clear n0_; (try clear hb); (try clear hb2); (try clear hk); (try clear hi)) | (go_at_call 49; (with_reducible refine (backfilllaw04_of.calls t348 t349 t350 t351 _ A75.out).mono ?_); rintro e w85 ⟨rfl, hb⟩; have n0_ := Aside0.mk (below_step bA hb); clear HB; have HB := n0_; clear n0_; (try clear hb); (try clear hb2); (try clear hk); (try clear hi)) | (go_at_call 63; (with_reducible refine (backfillref04_Of.calls a2 t352 t353 _ A76.out).mono ?_); rintro e w' ⟨rfl, ⟨nd, rfl⟩⟩) | (go_at_call 49; (with_reducible refine (backfilllaw04_of.calls t352 t353 t354 t355 _ A77.out).mono ?_); rintro e w86 ⟨rfl, hb⟩; have n0_ := Aside0.mk (below_step bA hb); clear HB; have HB := n0_; clear n0_; (try clear hb); (try clear hb2); (try clear hk); (try clear hi)) | (go_at_call 64; (with_reducible refine (fixq_Floor.calls a0 t356 _ A79.out).mono ?_); rintro e w' ⟨rfl, ⟨nd, rfl⟩⟩) | (go_at_call 65; (with_reducible refine (backfillref04_Floor.calls a0 t357 _ A80.out).mono ?_); rintro e w' ⟨rfl, ⟨nd, rfl⟩⟩) | (go_at_call 66; (with_reducible refine (fixq_Part.calls a0 a1 t358 _ A82.out).mono ?_); rintro e w87 ⟨rfl, hb⟩; have n0_ := Aside0.mk (below_step bA hb); clear HB; have HB := n0_; clear n0_; (try clear hb); (try clear hb2); (try clear hk); (try clear hi)) | (go_at_call 67; (with_reducible refine (backfillref04_Part.calls kj47 a0 a1 t359 _ A83.out).mono ?_); rintro e w88 ⟨rfl, hb⟩; have n0_ := Aside0.mk (below_step bA hb); clear HB; have HB := n0_; clear n0_; (try clear hb); (try clear hb2); (try clear hk); (try clear hi)))
                          go_ret
                          exact ⟨by first | rfl | (simp [errW_none, errW_some] <;> rfl) | (simp [*, errW_none, errW_some] <;> rfl), bA⟩
                        · rw [if_neg c81] at H
                          have c81b0 : (t356 == t357) = false := beq_eq_false_iff_ne.mpr c81
                          have c81b1 : (t356 != t357) = true := bne_iff_ne.mpr c81
                          obtain rfl := Option.some.inj H
                          go_wp2_with (first | (go_at_call 62; (with_reducible refine (fixq_Of.calls a2 t348 t349 _ A74.out).mono ?_); rintro e w89 ⟨rfl, hb⟩; have n0_ := Aside0.mk (below_step bA hb); clear HB; have HB := n0_; clear n0_; (try clear hb); (try clear hb2); (try clear hk); (try clear hi)) | (go_at_call 49; (with_reducible refine (backfilllaw04_of.calls t348 t349 t350 t351 _ A75.out).mono ?_); rintro e w90 ⟨rfl, hb⟩; have n0_ := Aside0.mk (below_step bA hb); clear HB; have HB := n0_; clear n0_; (try clear hb); (try clear hb2); (try clear hk); (try clear hi)) | (go_at_call 63; (with_reducible refine (backfillref04_Of.calls a2 t352 t353 _ A76.out).mono ?_); rintro e w' ⟨rfl, ⟨nd, rfl⟩⟩) | (go_at_call 49; (with_reducible refine (backfilllaw04_of.calls t352 t353 t354 t355 _ A77.out).mono ?_); rintro e w91 ⟨rfl, hb⟩; have n0_ := Aside0.mk (below_step bA hb); clear HB; have HB := n0_; clear n0_; (try clear hb); (try clear hb2); (try clear hk); (try clear hi)) | (go_at_call 64; (with_reducible refine (fixq_Floor.calls a0 t356 _ A79.out).mono ?_); rintro e w' ⟨rfl, ⟨nd, rfl⟩⟩) | (go_at_call 65; (with_reducible refine (backfillref04_Floor.calls a0 t357 _ A80.out).mono ?_); rintro e w' ⟨rfl, ⟨nd, rfl⟩⟩))
                          go_ret
                          exact ⟨by first | rfl | (simp [errW_none, errW_some] <;> rfl) | (simp [*, errW_none, errW_some] <;> rfl), bA⟩
                      · rw [if_neg c78] at H
                        have c78b0 : (t350 == t354 && (t351 == t355)) = false := by simpa using c78
                        (try (have c78b1 : decide (t350 = t354 && (t351 == t355)) = false := by simpa using c78))
                        (try (have c78b2 : (t350 == t354 && (t351 == t355)) = false := by simpa using c78))
                        (try (have c78b3 : ¬ (t350 = t354 && (t351 == t355)) := by simpa using c78))
                        clear c78
                        obtain rfl := Option.some.inj H
                        go_wp2_with (first | (go_at_call 62; (with_reducible refine (fixq_Of.calls a2 t348 t349 _ A74.out).mono ?_); rintro e w92 ⟨rfl, hb⟩; have n0_ := Aside0.mk (below_step bA hb); clear HB; have HB := n0_; clear n0_; (try clear hb); (try clear hb2); (try clear hk); (try clear hi)) | (go_at_call 49; (with_reducible refine (backfilllaw04_of.calls t348 t349 t350 t351 _ A75.out).mono ?_); rintro e w93 ⟨rfl, hb⟩; have n0_ := Aside0.mk (below_step bA hb); clear HB; have HB := n0_; clear n0_; (try clear hb); (try clear hb2); (try clear hk); (try clear hi)) | (go_at_call 63; (with_reducible refine (backfillref04_Of.calls a2 t352 t353 _ A76.out).mono ?_); rintro e w' ⟨rfl, ⟨nd, rfl⟩⟩) | (go_at_call 49; (with_reducible refine (backfilllaw04_of.calls t352 t353 t354 t355 _ A77.out).mono ?_); rintro e w94 ⟨rfl, hb⟩; have n0_ := Aside0.mk (below_step bA hb); clear HB; have HB := n0_; clear n0_; (try clear hb); (try clear hb2); (try clear hk); (try clear hi)))
                        go_ret
                        exact ⟨by first | rfl | (simp [errW_none, errW_some] <;> rfl) | (simp [*, errW_none, errW_some] <;> rfl), bA⟩
                    · replace c73 := Bool.eq_false_iff.mpr c73
                      subst c73
                      have H1 : (some false) = some r := by rw [if_neg (show ¬ (false = true) by decide)] at H; exact H
                      clear H
                      have H := H1
                      clear H1
                      obtain rfl := Option.some.inj H
                      go_wp2
                      go_ret
                      exact ⟨by first | rfl | (simp [errW_none, errW_some] <;> rfl) | (simp [*, errW_none, errW_some] <;> rfl), bA⟩
                  · replace c72 := Bool.eq_false_iff.mpr c72
                    subst c72
                    have H1 : (some false) = some r := by rw [if_neg (show ¬ (false = true) by decide)] at H; exact H
                    clear H
                    have H := H1
                    clear H1
                    obtain rfl := Option.some.inj H
                    go_wp2
                    go_ret
                    exact ⟨by first | rfl | (simp [errW_none, errW_some] <;> rfl) | (simp [*, errW_none, errW_some] <;> rfl), bA⟩
                · replace c71 := Bool.eq_false_iff.mpr c71
                  subst c71
                  have H1 : (some false) = some r := by rw [if_neg (show ¬ (false = true) by decide)] at H; exact H
                  clear H
                  have H := H1
                  clear H1
                  obtain rfl := Option.some.inj H
                  go_wp2
                  go_ret
                  exact ⟨by first | rfl | (simp [errW_none, errW_some] <;> rfl) | (simp [*, errW_none, errW_some] <;> rfl), bA⟩
              · replace c70 := Bool.eq_false_iff.mpr c70
                subst c70
                have H1 : (some false) = some r := by rw [if_neg (show ¬ (false = true) by decide)] at H; exact H
                clear H
                have H := H1
                clear H1
                obtain rfl := Option.some.inj H
                go_wp2
                go_ret
                exact ⟨by first | rfl | (simp [errW_none, errW_some] <;> rfl) | (simp [*, errW_none, errW_some] <;> rfl), bA⟩

/-- THE ONE PURE STATEMENT of backfilllaw04_FixqTells: yours. -/
def backfilllaw04_FixqTells.Pure : Prop := ∀ (a0 : Int) (a1 : Int) (a2 : Int), (Lit.int .u64 a0).wf = true → (Lit.int .u64 a1).wf = true → (Lit.int .i64 a2).wf = true → ∃ k, backfilllaw04_FixqTells.f k a0 a1 a2 = some true
theorem backfilllaw04_FixqTells.walk (P : backfilllaw04_FixqTells.Pure) (a0 : Int) (a1 : Int) (a2 : Int) (w : World) (w0 : (Lit.int .u64 a0).wf = true) (w1 : (Lit.int .u64 a1).wf = true) (w2 : (Lit.int .i64 a2).wf = true) :
    Calls Try.prog 9 #[.int .u64 a0, .int .u64 a1, .int .i64 a2] w fun e w' => e = .returned (.bool true) ∧ Below w.heap.size w w' := by
  obtain ⟨k, h⟩ := P a0 a1 a2 w0 w1 w2
  refine (backfilllaw04_FixqTells.calls k a0 a1 a2 true w h).mono ?_
  rintro e w' ⟨rfl, hd⟩
  exact ⟨rfl, hd⟩

end Go.Proofs.Ytcolhngdhlamkaa.GFT
