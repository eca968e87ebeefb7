-- Laid by a program of this session (wip/tools/pr.py): contracts and pure functions; Lean checks it.
import Derived.Test.YtmgmggkebmgafaaDoorGLx0
import Derived.Test.YtmgmggkebmgafaaDoorGLx2
namespace Go.Proofs.YtmgmggkebmgafaaDoor.GL
open Go.RowKit Go.Proofs.YtmgmggkebmgafaaDoorW.PrintWords Go.Proofs.YtmgmggkebmgafaaDoorW.PrintLast Go.Proofs.YtmgmggkebmgafaaDoorW.PrintMore
attribute [local go_sem] max2_int min2_int max_two min_two max_three min_three max_four min_four   -- for this text's walks alone
set_option linter.unusedVariables false
set_option linter.unusedSimpArgs false

/-! ### backfillref07_Half: function 20 -/
def backfillref07_Half.l0 : Nat → Int → Int → List Int → Int → Int → Option (Int)
  | 0, _, _, _, _, _ => none
  | k + 1, x0, x3, x4, x5, x6 => if x6 ≤ 32 then (if 0 ≤ (wrap64 (32 - x6)) then (if (Go.bits .and .u64 (shr .u64 x0 (wrap64 (32 - x6))) 1) = 1 then (if 0 ≤ (wrap64 (x6 - 1)) then (if (wrap64 (x6 - 1)) < (x4.length : Int) then ((backfillref01_Mul.f x5 (rd x4 (wrap64 (x6 - 1)))).bind fun bt137 => (backfillref07_Half.l0 k x0 x3 x4 bt137.1 (wrap64 (x6 + 1)))) else (none)) else (none)) else (backfillref07_Half.l0 k x0 x3 x4 x5 (wrap64 (x6 + 1)))) else (none)) else (if 0 ≤ x3 then (some (shr .u64 x5 x3)) else (none))
def backfillref07_Half.f (k : Nat) (a0 : Int) : Option (Int) := if (a0 / 4294967296) ≥ 63 then (some 0) else ((backfillref07_rungs.f).bind fun t133 => (backfillref07_Half.l0 k a0 (a0 / 4294967296) t133 9223372036854775808 1))
theorem backfillref07_Half.mono_l : ∀ k, (∀ y0 y1 y2 y3 y4, LeO (backfillref07_Half.l0 k y0 y1 y2 y3 y4) (backfillref07_Half.l0 (k + 1) y0 y1 y2 y3 y4))
  | 0 => fun _ _ _ _ _ r h => by simp [backfillref07_Half.l0] at h
  | k + 1 => by
    have ih0 := backfillref07_Half.mono_l k
    · intro y0 y1 y2 y3 y4
      unfold backfillref07_Half.l0
      repeat' first
      | (with_reducible exact ih0 _ _ _ _ _)
      | (with_reducible exact LeO.refl _)
      | (with_reducible exact LeO.none _)
      | (with_reducible refine LeO.ite ?_ ?_)
      | (with_reducible refine LeO.bind ?_ (fun _ => ?_))
      | exact ih0 _ _ _ _ _
      | exact LeO.none _
      | refine LeO.ite ?_ ?_
      | refine LeO.bind ?_ (fun _ => ?_)
theorem backfillref07_Half.mono : ∀ a0 k, LeO (backfillref07_Half.f k a0) (backfillref07_Half.f (k + 1) a0) := by
  intro a0 k
  have ih0 := backfillref07_Half.mono_l k
  unfold backfillref07_Half.f
  repeat' first
      | (with_reducible exact ih0 _ _ _ _ _)
      | (with_reducible exact LeO.refl _)
      | (with_reducible exact LeO.none _)
      | (with_reducible refine LeO.ite ?_ ?_)
      | (with_reducible refine LeO.bind ?_ (fun _ => ?_))
      | exact ih0 _ _ _ _ _
      | exact LeO.none _
      | refine LeO.ite ?_ ?_
      | refine LeO.bind ?_ (fun _ => ?_)
set_option maxHeartbeats 8000000 in
set_option maxRecDepth 100000 in
theorem backfillref07_Half.calls (k : Nat) (a0 : Int) (r : Int) (w : World) (h : backfillref07_Half.f k a0 = some r) :
    Calls Tryd.prog 20 #[.int .u64 a0] w fun e w' => e = .returned (.int .u64 r) ∧ Below w.heap.size w w' := by
  have hfd26_0 : ∀ (x0 : Int) (x1 : Int) (W_ : World), (Instr.field 26 (.agg #[(.int .u64 x0), (.int .u64 x1)]) 0).run Tryd.prog W_ = .ok ((.int .u64 x0)) W_ := by intros; kernel_rfl
  have HB := Aside0.mk (Below.refl w.heap.size w)
  have H : (if (a0 / 4294967296) ≥ 63 then (some 0) else ((backfillref07_rungs.f).bind fun t133 => (backfillref07_Half.l0 k a0 (a0 / 4294967296) t133 9223372036854775808 1))) = some r := h
  clear h
  by_cases c2 : (a0 / 4294967296) ≥ 63
  · rw [if_pos c2] at H
    have c2b0 : decide (63 ≤ (a0 / 4294967296)) = true := decide_eq_true c2
    clear c2
    obtain rfl := Option.some.inj H
    go_enter Tryd.func20, Tryd.ntmps20
    go_wp2
    go_ret
    exact ⟨by first | rfl | (simp [errW_none, errW_some] <;> rfl) | (simp [*, errW_none, errW_some] <;> rfl), bA⟩
  · rw [if_neg c2] at H
    have c2b0 : decide (63 ≤ (a0 / 4294967296)) = false := decide_eq_false c2
    clear c2
    replace H := Option.bind_eq_some_iff.mp H
    obtain ⟨t133, A30, H⟩ := H
    replace H : (backfillref07_Half.l0 k a0 (a0 / 4294967296) t133 9223372036854775808 1) = some r := H
    have A3 := Aside0.mk A30
    clear A30
    have H' := Aside0.mk H
    clear H
    go_enter Tryd.func20, Tryd.ntmps20
    go_wp2_with (first | ((with_reducible refine gate_callee (f := 32) rfl ?_); refine goesL_ (some 11) rfl rfl Tryd.func32 (by kernel_rfl) rfl #[] rfl aA ?_; (with_reducible refine (backfillref07_rungs.calls  t133 _ A3.out).mono ?_); rintro e w4 ⟨v134, rfl, ho0, hb⟩; refine ⟨_, rfl, ?_⟩; have n0_ := Aside0.mk (Kd.R_lower ho0 (below_size bA)); have n1_ := Aside0.mk (below_step bA hb); clear HB; have HO135 := n0_; have HB := n1_; clear n0_ n1_; (try clear hb); (try clear hb2); (try clear hk); (try clear hi); (try clear ho0)))
    go_loopg [5, 6] k (fun kq v5 v6 w' => ∃ (x5_1 : Int) (x6_1 : Int), v5 = .int .u64 x5_1 ∧ v6 = .int .i64 x6_1 ∧ Aside0 (backfillref07_Half.l0 kq a0 (a0 / 4294967296) t133 x5_1 x6_1 = some r) ∧ Aside0 (kq ≤ k) ∧ Aside0 (Kd.R (Kd.int .u64) 23 w' w.heap.size (fun _ => True) v134 t133) ∧ Aside0 (Below w.heap.size w w'))
    case atStart => exact ⟨(9223372036854775808), (1), (by first | rfl | (simp; done) | (simp [*]; done)), (by first | rfl | (simp; done) | (simp [*]; done)), H', ⟨Nat.le_refl _⟩, ⟨by (with_reducible repeat (first | apply Kd.R_alloc | apply Kd.R_drewN | apply Kd.R_drew)); exact HO135.out⟩, ⟨bA⟩⟩
    case round =>
      clear H'
      try clear c2
      try clear c2b0
      try clear p2
      try clear c3
      obtain ⟨x5_1, x6_1, rfl, rfl, HA, HK1, HO_4, HB⟩ := hrel
      cases gk with
      | zero => exact absurd HA.out (by simp [backfillref07_Half.l0])
      | succ k1 =>
        have H := HA.out
        clear HA
        simp only [backfillref07_Half.l0] at H
        by_cases c5 : x6_1 ≤ 32
        · rw [if_pos c5] at H
          have c5b0 : decide (x6_1 ≤ 32) = true := decide_eq_true c5
          clear c5
          obtain ⟨ji6, hji6⟩ : ∃ j_ : Int, (wrap64 (32 - x6_1)) = j_ := ⟨_, rfl⟩
          replace H : (if 0 ≤ (ji6) then (if (Go.bits .and .u64 (shr .u64 a0 (ji6)) 1) = 1 then (if 0 ≤ (wrap64 (x6_1 - 1)) then (if (wrap64 (x6_1 - 1)) < (t133.length : Int) then ((backfillref01_Mul.f x5_1 (rd t133 (wrap64 (x6_1 - 1)))).bind fun bt137 => (backfillref07_Half.l0 k1 a0 (a0 / 4294967296) t133 bt137.1 (wrap64 (x6_1 + 1)))) else (none)) else (none)) else (backfillref07_Half.l0 k1 a0 (a0 / 4294967296) t133 x5_1 (wrap64 (x6_1 + 1)))) else (none)) = some r := by first | (rw [hji6] at H; exact H) | (simp only [hji6] at H ⊢; exact H)
          have hji6w : (IntKind.i64.wrap (32 - x6_1)) = ji6 := (i64_w _).trans hji6
          by_cases c7 : 0 ≤ (ji6)
          · rw [if_pos c7] at H
            have c7b0 := eq_true c7
            have c7b1 : decide (0 ≤ (ji6)) = true := decide_eq_true c7
            clear c7
            obtain ⟨ji8, hji8⟩ : ∃ j_ : Int, (shr .u64 a0 (ji6)) = j_ := ⟨_, rfl⟩
            replace H : (if (Go.bits .and .u64 (ji8) 1) = 1 then (if 0 ≤ (wrap64 (x6_1 - 1)) then (if (wrap64 (x6_1 - 1)) < (t133.length : Int) then ((backfillref01_Mul.f x5_1 (rd t133 (wrap64 (x6_1 - 1)))).bind fun bt137 => (backfillref07_Half.l0 k1 a0 (a0 / 4294967296) t133 bt137.1 (wrap64 (x6_1 + 1)))) else (none)) else (none)) else (backfillref07_Half.l0 k1 a0 (a0 / 4294967296) t133 x5_1 (wrap64 (x6_1 + 1)))) = some r := by first | (rw [hji8] at H; exact H) | (simp only [hji8] at H ⊢; exact H)
            have hji8_ : (a0 / 2 ^ min (ji6).toNat 64) = ji8 := hji8
            have hji8z : (ji6) ≤ 64 → (a0 / 2 ^ (ji6).toNat) = ji8 := shr_small hji8
            by_cases c9 : (Go.bits .and .u64 (ji8) 1) = 1
            · rw [if_pos c9] at H
              have c9b0 : ((Go.bits .and .u64 (ji8) 1) == 1) = true := beq_iff_eq.mpr c9
              have c9b1 : ((Go.bits .and .u64 (ji8) 1) != 1) = false := bne_eq_false_iff_eq.mpr c9
              clear c9
              obtain ⟨ji10, hji10⟩ : ∃ j_ : Int, (wrap64 (x6_1 - 1)) = j_ := ⟨_, rfl⟩
              replace H : (if 0 ≤ (ji10) then (if (ji10) < (t133.length : Int) then ((backfillref01_Mul.f x5_1 (rd t133 (ji10))).bind fun bt137 => (backfillref07_Half.l0 k1 a0 (a0 / 4294967296) t133 bt137.1 (wrap64 (x6_1 + 1)))) else (none)) else (none)) = some r := by first | (rw [hji10] at H; exact H) | (simp only [hji10] at H ⊢; exact H)
              have hji10w : (IntKind.i64.wrap (x6_1 - 1)) = ji10 := (i64_w _).trans hji10
              by_cases c11 : 0 ≤ (ji10)
              · rw [if_pos c11] at H
                have c11b0 : decide (0 ≤ (ji10)) = true := decide_eq_true c11
                clear c11
                by_cases c12 : (ji10) < (t133.length : Int)
                · rw [if_pos c12] at H
                  have c12b0 : decide ((ji10) < (t133.length : Int)) = true := decide_eq_true c12
                  clear c12
                  replace H := Option.bind_eq_some_iff.mp H
                  obtain ⟨⟨t137, t138⟩, A130, H⟩ := H
                  replace H : (backfillref07_Half.l0 k1 a0 (a0 / 4294967296) t133 t137 (wrap64 (x6_1 + 1))) = some r := H
                  have A13 := Aside0.mk A130
                  clear A130
                  have H' := Aside0.mk H
                  clear H
                  obtain ⟨Ao14, co14, eo14⟩ := Kd.R_slice HO_4.out
                  subst eo14
                  have p136 : 0 ≤ ((ji10) : Int) := of_decide_eq_true (by first | (with_reducible assumption) | assumption)
                  have q136 : (ji10) < (t133.length : Int) := of_decide_eq_true (by first | (with_reducible assumption) | assumption)
                  obtain ⟨ad136, e136, hx136_0⟩ := Kd.at_int (Kd.R_reads' HO_4.out).2.2 (ji10) p136 q136
                  cases e136
                  replace p136 := eq_true p136
                  replace q136 := eq_true q136
                  go_wp2_with (first | ((with_reducible refine gate_callee (f := 16) rfl ?_); refine goesL_ (some 28) rfl rfl Tryd.func16 (by kernel_rfl) rfl #[.int .u64 x5_1, .int .u64 (rd t133 (ji10))] rfl (by (try simp only [List.map_toArray, List.map_cons, List.map_nil]); first | done | (simp only [hji10]; rfl) | rfl | (simp only [List.length_drop, List.length_take]; rfl)) ?_; (with_reducible refine (backfillref01_Mul.calls x5_1 (rd t133 (ji10)) t137 t138 _ A13.out).mono ?_); rintro e w15 ⟨rfl, hb⟩; refine ⟨_, rfl, ?_⟩; have n0_ := Aside0.mk (Kd.R_below (by (with_reducible repeat (first | apply Kd.R_alloc | apply Kd.R_drewN | apply Kd.R_drew)); exact HO_4.out) hb); have n1_ := Aside0.mk (below_step bA hb); clear HO_4; clear HB; have HO_4 := n0_; have HB := n1_; clear n0_ n1_; (try clear hb); (try clear hb2); (try clear hk); (try clear hi)))
                  go_roundg k1
                  case measure => have := HK1.out; omega
                  case rel => exact ⟨(t137), (wrap64 (x6_1 + 1)), (by first | rfl | (simp; done) | (simp [*]; done)), (by first | rfl | (simp; done) | (simp [*]; done)), H', ⟨by have := HK1.out; omega⟩, ⟨by (with_reducible repeat (first | apply Kd.R_alloc | apply Kd.R_drewN | apply Kd.R_drew)); exact HO_4.out⟩, ⟨bA⟩⟩
                · rw [if_neg c12] at H
                  exact absurd H (by simp)
              · rw [if_neg c11] at H
                exact absurd H (by simp)
            · rw [if_neg c9] at H
              have c9b0 : ((Go.bits .and .u64 (ji8) 1) == 1) = false := beq_eq_false_iff_ne.mpr c9
              have c9b1 : ((Go.bits .and .u64 (ji8) 1) != 1) = true := bne_iff_ne.mpr c9
              have H' := Aside0.mk H
              clear H
              go_wp2
              go_roundg k1
              case measure => have := HK1.out; omega
              case rel => exact ⟨(x5_1), (wrap64 (x6_1 + 1)), (by first | rfl | (simp; done) | (simp [*]; done)), (by first | rfl | (simp; done) | (simp [*]; done)), H', ⟨by have := HK1.out; omega⟩, ⟨by (with_reducible repeat (first | apply Kd.R_alloc | apply Kd.R_drewN | apply Kd.R_drew)); exact HO_4.out⟩, ⟨bA⟩⟩
          · rw [if_neg c7] at H
            exact absurd H (by simp)
        · rw [if_neg c5] at H
          have c5b0 : decide (x6_1 ≤ 32) = false := decide_eq_false c5
          clear c5
          obtain ⟨ji16, hji16⟩ : ∃ j_ : Int, (a0 / 4294967296) = j_ := ⟨_, rfl⟩
          replace H : (if 0 ≤ (ji16) then (some (shr .u64 x5_1 (ji16))) else (none)) = some r := by first | (rw [hji16] at H; exact H) | (simp only [hji16] at H ⊢; exact H)
          (try rw [hji16] at c2b0)
          by_cases c17 : 0 ≤ (ji16)
          · rw [if_pos c17] at H
            have c17b0 := eq_true c17
            have c17b1 : decide (0 ≤ (ji16)) = true := decide_eq_true c17
            clear c17
            obtain ⟨ji18, hji18⟩ : ∃ j_ : Int, (shr .u64 x5_1 (ji16)) = j_ := ⟨_, rfl⟩
            replace H : (some ji18) = some r := by first | (rw [hji18] at H; exact H) | (simp only [hji18] at H ⊢; exact H)
            have hji18_ : (x5_1 / 2 ^ min (ji16).toNat 64) = ji18 := hji18
            have hji18z : (ji16) ≤ 64 → (x5_1 / 2 ^ (ji16).toNat) = ji18 := shr_small hji18
            obtain rfl := Option.some.inj H
            go_wp2
            go_ret
            exact ⟨by first | rfl | (simp [errW_none, errW_some] <;> rfl) | (simp only [← hji16, ← hji18]; first | rfl | (simp [errW_none, errW_some] <;> rfl)) | (simp [*, errW_none, errW_some] <;> rfl), bA⟩
          · rw [if_neg c17] at H
            exact absurd H (by simp)

/-! ### backfillref07_Bounds: function 18 -/
def backfillref07_Bounds.f (k : Nat) (a0 : Int) : Option (Int × Int) := (backfillref07_Half.f k a0).bind fun t139 => (if t139 > 9223372036854775727 then (some (t139, 9223372036854775808)) else (some (t139, IntKind.u64.wrap (t139 + 81))))
theorem backfillref07_Bounds.mono : ∀ a0 k, LeO (backfillref07_Bounds.f k a0) (backfillref07_Bounds.f (k + 1) a0) := by
  intro a0 k
  unfold backfillref07_Bounds.f
  repeat' first
      | (with_reducible exact backfillref07_Half.mono _ _)
      | (with_reducible exact LeO.refl _)
      | (with_reducible exact LeO.none _)
      | (with_reducible refine LeO.ite ?_ ?_)
      | (with_reducible refine LeO.bind ?_ (fun _ => ?_))
      | exact backfillref07_Half.mono _ _
      | exact LeO.none _
      | refine LeO.ite ?_ ?_
      | refine LeO.bind ?_ (fun _ => ?_)
set_option maxHeartbeats 8000000 in
set_option maxRecDepth 100000 in
theorem backfillref07_Bounds.calls (k : Nat) (a0 : Int) (r1 : Int) (r2 : Int) (w : World) (h : backfillref07_Bounds.f k a0 = some (r1, r2)) :
    Calls Tryd.prog 18 #[.int .u64 a0] w fun e w' => e = .returned (.tuple #[.int .u64 r1, .int .u64 r2]) ∧ Below w.heap.size w w' := by
  have HB := Aside0.mk (Below.refl w.heap.size w)
  have H : ((backfillref07_Half.f k a0).bind fun t139 => (if t139 > 9223372036854775727 then (some (t139, 9223372036854775808)) else (some (t139, IntKind.u64.wrap (t139 + 81))))) = some (r1, r2) := h
  clear h
  replace H := Option.bind_eq_some_iff.mp H
  obtain ⟨t139, A20, H⟩ := H
  replace H : (if t139 > 9223372036854775727 then (some (t139, 9223372036854775808)) else (some (t139, IntKind.u64.wrap (t139 + 81)))) = some (r1, r2) := H
  have A2 := Aside0.mk A20
  clear A20
  by_cases c3 : t139 > 9223372036854775727
  · rw [if_pos c3] at H
    have c3b0 : decide (9223372036854775727 < t139) = true := decide_eq_true c3
    clear c3
    simp only [Option.some.injEq, Prod.mk.injEq] at H
    obtain ⟨rfl, rfl⟩ := H
    go_enter Tryd.func18, Tryd.ntmps18
    go_wp2_with (first | ((with_reducible refine gate_callee (f := 20) rfl ?_); refine goesL_ (some 6) rfl rfl Tryd.func20 (by kernel_rfl) rfl #[.int .u64 a0] rfl aA ?_; (with_reducible refine (backfillref07_Half.calls k a0 t139 _ A2.out).mono ?_); rintro e w4 ⟨rfl, hb⟩; refine ⟨_, rfl, ?_⟩; have n0_ := Aside0.mk (below_step bA hb); clear HB; have HB := n0_; clear n0_; (try clear hb); (try clear hb2); (try clear hk); (try clear hi)))
    go_ret2
    exact ⟨by first | rfl | (simp [errW_none, errW_some] <;> rfl) | (simp [*, errW_none, errW_some] <;> rfl), bA⟩
  · rw [if_neg c3] at H
    have c3b0 : decide (9223372036854775727 < t139) = false := decide_eq_false c3
    clear c3
    simp only [Option.some.injEq, Prod.mk.injEq] at H
    obtain ⟨rfl, rfl⟩ := H
    go_enter Tryd.func18, Tryd.ntmps18
    go_wp2_with (first | ((with_reducible refine gate_callee (f := 20) rfl ?_); refine goesL_ (some 6) rfl rfl Tryd.func20 (by kernel_rfl) rfl #[.int .u64 a0] rfl aA ?_; (with_reducible refine (backfillref07_Half.calls k a0 t139 _ A2.out).mono ?_); rintro e w5 ⟨rfl, hb⟩; refine ⟨_, rfl, ?_⟩; have n0_ := Aside0.mk (below_step bA hb); clear HB; have HB := n0_; clear n0_; (try clear hb); (try clear hb2); (try clear hk); (try clear hi)))
    go_ret2
    exact ⟨by first | rfl | (simp [errW_none, errW_some] <;> rfl) | (simp [*, errW_none, errW_some] <;> rfl), bA⟩

/-! ### backfilllaw07_LadderTells: function 4 -/
def backfilllaw07_LadderTells.f (k : Nat) (a0 : Int) : Option (Bool) := (backfilllaw07_shown.f).bind fun t140 => ((ladder_Bounds.f a0).bind fun bt141 => ((backfillref07_Bounds.f k a0).bind fun bt143 => (if t140 = true then ((ladder_Half.f a0).bind fun t145 => ((backfillref07_Half.f k a0).bind fun t146 => (if t145 = t146 then (if bt141.1 = bt143.1 then (some (bt141.2 == bt143.2)) else (some false)) else (some false)))) else (some false))))
theorem backfilllaw07_LadderTells.mono : ∀ a0 k, LeO (backfilllaw07_LadderTells.f k a0) (backfilllaw07_LadderTells.f (k + 1) a0) := by
  intro a0 k
  unfold backfilllaw07_LadderTells.f
  repeat' first
      | (with_reducible exact backfillref07_Bounds.mono _ _)
      | (with_reducible exact backfillref07_Half.mono _ _)
      | (with_reducible exact LeO.refl _)
      | (with_reducible exact LeO.none _)
      | (with_reducible refine LeO.ite ?_ ?_)
      | (with_reducible refine LeO.bind ?_ (fun _ => ?_))
      | exact backfillref07_Bounds.mono _ _
      | exact backfillref07_Half.mono _ _
      | exact LeO.none _
      | refine LeO.ite ?_ ?_
      | refine LeO.bind ?_ (fun _ => ?_)
set_option maxHeartbeats 8000000 in
set_option maxRecDepth 100000 in
theorem backfilllaw07_LadderTells.calls (k : Nat) (a0 : Int) (r : Bool) (w : World) (hL : LaidW w) (h : backfilllaw07_LadderTells.f k a0 = some r) :
    Calls Tryd.prog 4 #[.int .u64 a0] w fun e w' => e = .returned (.bool r) ∧ Below w.heap.size w w' := by
  have HB := Aside0.mk (Below.refl w.heap.size w)
  have H : ((backfilllaw07_shown.f).bind fun t140 => ((ladder_Bounds.f a0).bind fun bt141 => ((backfillref07_Bounds.f k a0).bind fun bt143 => (if t140 = true then ((ladder_Half.f a0).bind fun t145 => ((backfillref07_Half.f k a0).bind fun t146 => (if t145 = t146 then (if bt141.1 = bt143.1 then (some (bt141.2 == bt143.2)) else (some false)) else (some false)))) else (some false))))) = some r := h
  clear h
  replace H := Option.bind_eq_some_iff.mp H
  obtain ⟨t140, A20, H⟩ := H
  replace H : ((ladder_Bounds.f a0).bind fun bt141 => ((backfillref07_Bounds.f k a0).bind fun bt143 => (if t140 = true then ((ladder_Half.f a0).bind fun t145 => ((backfillref07_Half.f k a0).bind fun t146 => (if t145 = t146 then (if bt141.1 = bt143.1 then (some (bt141.2 == bt143.2)) else (some false)) else (some false)))) else (some false)))) = some r := H
  have A2 := Aside0.mk A20
  clear A20
  replace H := Option.bind_eq_some_iff.mp H
  obtain ⟨⟨t141, t142⟩, A30, H⟩ := H
  replace H : ((backfillref07_Bounds.f k a0).bind fun bt143 => (if t140 = true then ((ladder_Half.f a0).bind fun t145 => ((backfillref07_Half.f k a0).bind fun t146 => (if t145 = t146 then (if t141 = bt143.1 then (some (t142 == bt143.2)) else (some false)) else (some false)))) else (some false))) = some r := H
  have A3 := Aside0.mk A30
  clear A30
  replace H := Option.bind_eq_some_iff.mp H
  obtain ⟨⟨t143, t144⟩, A40, H⟩ := H
  replace H : (if t140 = true then ((ladder_Half.f a0).bind fun t145 => ((backfillref07_Half.f k a0).bind fun t146 => (if t145 = t146 then (if t141 = t143 then (some (t142 == t144)) else (some false)) else (some false)))) else (some false)) = some r := H
  have A4 := Aside0.mk A40
  clear A40
  by_cases c5 : t140 = true
  · subst c5
    have H1 : ((ladder_Half.f a0).bind fun t145 => ((backfillref07_Half.f k a0).bind fun t146 => (if t145 = t146 then (if t141 = t143 then (some (t142 == t144)) else (some false)) else (some false)))) = some r := by rw [if_pos rfl] at H; exact H
    clear H
    have H := H1
    clear H1
    replace H := Option.bind_eq_some_iff.mp H
    obtain ⟨t145, A60, H⟩ := H
    replace H : ((backfillref07_Half.f k a0).bind fun t146 => (if t145 = t146 then (if t141 = t143 then (some (t142 == t144)) else (some false)) else (some false))) = some r := H
    have A6 := Aside0.mk A60
    clear A60
    replace H := Option.bind_eq_some_iff.mp H
    obtain ⟨t146, A70, H⟩ := H
    replace H : (if t145 = t146 then (if t141 = t143 then (some (t142 == t144)) else (some false)) else (some false)) = some r := H
    have A7 := Aside0.mk A70
    clear A70
    by_cases c8 : t145 = t146
    · rw [if_pos c8] at H
      have c8b0 : (t145 == t146) = true := beq_iff_eq.mpr c8
      have c8b1 : (t145 != t146) = false := bne_eq_false_iff_eq.mpr c8
      clear c8
      by_cases c9 : t141 = t143
      · rw [if_pos c9] at H
        have c9b0 : (t141 == t143) = true := beq_iff_eq.mpr c9
        have c9b1 : (t141 != t143) = false := bne_eq_false_iff_eq.mpr c9
        clear c9
        obtain rfl := Option.some.inj H
        go_enter Tryd.func4, Tryd.ntmps4
        go_wp2_with (first | ((with_reducible refine gate_callee (f := 12) rfl ?_); refine goesL_ (some 8) rfl rfl Tryd.func12 (by kernel_rfl) rfl #[] rfl aA ?_; (with_reducible refine (backfilllaw07_shown.calls  true _ ?side1 A2.out).mono ?_); (case side1 => exact laid_below hL bA); rintro e w10 ⟨rfl, hb⟩; refine ⟨_, rfl, ?_⟩; have n0_ := Aside0.mk (below_step bA hb); clear HB; have HB := n0_; clear n0_; (try clear hb); (try clear hb2); (try clear hk); (try clear hi)) | ((with_reducible refine gate_callee (f := 17) rfl ?_); refine goesL_ (some 11) rfl rfl Tryd.func17 (by kernel_rfl) rfl #[.int .u64 a0] rfl aA ?_; (with_reducible refine (ladder_Bounds.calls a0 t141 t142 _ ?side1 A3.out).mono ?_); (case side1 => exact laid_below hL bA); rintro e w11 ⟨rfl, hb⟩; refine ⟨_, rfl, ?_⟩; have n0_ := Aside0.mk (below_step bA hb); clear HB; have HB := n0_; clear n0_; (try clear hb); (try clear hb2); (try clear hk); (try clear hi)) | ((with_reducible refine gate_callee (f := 18) rfl ?_); refine goesL_ (some 16) rfl rfl Tryd.func18 (by kernel_rfl) rfl #[.int .u64 a0] rfl aA ?_; (with_reducible refine (backfillref07_Bounds.calls k a0 t143 t144 _ A4.out).mono ?_); rintro e w12 ⟨rfl, hb⟩; refine ⟨_, rfl, ?_⟩; have n0_ := Aside0.mk (below_step bA hb); clear HB; have HB := n0_; clear n0_; (try clear hb); (try clear hb2); (try clear hk); (try clear hi)) | (go_at_call 19; (with_reducible refine (ladder_Half.calls a0 t145 _ ?side1 A6.out).mono ?_); (case side1 => exact laid_below hL bA); rintro e w13 ⟨rfl, hb⟩; have n0_ := Aside0.mk (below_step bA hb); clear HB; have HB := n0_; clear n0_; (try clear hb); (try clear hb2); (try clear hk); (try clear hi)) | (go_at_call 20; (with_reducible refine (backfillref07_Half.calls k a0 t146 _ A7.out).mono ?_); rintro e w14 ⟨rfl, hb⟩; have n0_ := Aside0.mk (below_step bA hb); clear HB; have HB := n0_; clear n0_; (try clear hb); (try clear hb2); (try clear hk); (try clear hi)))
        go_ret
        exact ⟨by first | rfl | (simp [errW_none, errW_some] <;> rfl) | (simp [*, errW_none, errW_some] <;> rfl), bA⟩
      · rw [if_neg c9] at H
        have c9b0 : (t141 == t143) = false := beq_eq_false_iff_ne.mpr c9
        have c9b1 : (t141 != t143) = true := bne_iff_ne.mpr c9
        obtain rfl := Option.some.inj H
        go_enter Tryd.func4, Tryd.ntmps4
        go_wp2_with (first | ((with_reducible refine gate_callee (f := 12) rfl ?_); refine goesL_ (some 8) rfl rfl Tryd.func12 (by kernel_rfl) rfl #[] rfl aA ?_; (with_reducible refine (backfilllaw07_shown.calls  true _ ?side1 A2.out).mono ?_); (case side1 => exact laid_below hL bA); rintro e w15 ⟨rfl, hb⟩; refine ⟨_, rfl, ?_⟩; have n0_ := Aside0.mk (below_step bA hb); clear HB; have HB := n0_; clear n0_; (try clear hb); (try clear hb2); (try clear hk); (try clear hi)) | ((with_reducible refine gate_callee (f := 17) rfl ?_); refine goesL_ (some 11) rfl rfl Tryd.func17 (by kernel_rfl) rfl #[.int .u64 a0] rfl aA ?_; (with_reducible refine (ladder_Bounds.calls a0 t141 t142 _ ?side1 A3.out).mono ?_); (case side1 => exact laid_below hL bA); rintro e w16 ⟨rfl, hb⟩; refine ⟨_, rfl, ?_⟩; have n0_ := Aside0.mk (below_step bA hb); clear HB; have HB := n0_; clear n0_; (try clear hb); (try clear hb2); (try clear hk); (try clear hi)) | ((with_reducible refine gate_callee (f := 18) rfl ?_); refine goesL_ (some 16) rfl rfl Tryd.func18 (by kernel_rfl) rfl #[.int .u64 a0] rfl aA ?_; (with_reducible refine (backfillref07_Bounds.calls k a0 t143 t144 _ A4.out).mono ?_); rintro e w17 ⟨rfl, hb⟩; refine ⟨_, rfl, ?_⟩; have n0_ := Aside0.mk (below_step bA hb); clear HB; have HB := n0_; clear n0_; (try clear hb); (try clear hb2); (try clear hk); (try clear hi)) | (go_at_call 19; (with_reducible refine (ladder_Half.calls a0 t145 _ ?side1 A6.out).mono ?_); (case side1 => exact laid_below hL bA); rintro e w18 ⟨rfl, hb⟩; have n0_ := Aside0.mk (below_step bA hb); clear HB; have HB := n0_; clear n0_; (try clear hb); (try clear hb2); (try clear hk); (try clear hi)) | (go_at_call 20; (with_reducible refine (backfillref07_Half.calls k a0 t146 _ A7.out).mono ?_); rintro e w19 ⟨rfl, hb⟩; have n0_ := Aside0.mk (below_step bA hb); clear HB; have HB := n0_; clear n0_; (try clear hb); (try clear hb2); (try clear hk); (try clear hi)))
        go_ret
        exact ⟨by first | rfl | (simp [errW_none, errW_some] <;> rfl) | (simp [*, errW_none, errW_some] <;> rfl), bA⟩
    · rw [if_neg c8] at H
      have c8b0 : (t145 == t146) = false := beq_eq_false_iff_ne.mpr c8
      have c8b1 : (t145 != t146) = true := bne_iff_ne.mpr c8
      obtain rfl := Option.some.inj H
      go_enter Tryd.func4, Tryd.ntmps4
      go_wp2_with (first | ((with_reducible refine gate_callee (f := 12) rfl ?_); refine goesL_ (some 8) rfl rfl Tryd.func12 (by kernel_rfl) rfl #[] rfl aA ?_; (with_reducible refine (backfilllaw07_shown.calls  true _ ?side1 A2.out).mono ?_); (case side1 => exact laid_below hL bA); rintro e w20 ⟨rfl, hb⟩; refine ⟨_, rfl, ?_⟩; have n0_ := Aside0.mk (below_step bA hb); clear HB; have HB := n0_; clear n0_; (try clear hb); (try clear hb2); (try clear hk); (try clear hi)) | ((with_reducible refine gate_callee (f := 17) rfl ?_); refine goesL_ (some 11) rfl rfl Tryd.func17 (by kernel_rfl) rfl #[.int .u64 a0] rfl aA ?_; (with_reducible refine (ladder_Bounds.calls a0 t141 t142 _ ?side1 A3.out).mono ?_); (case side1 => exact laid_below hL bA); rintro e w21 ⟨rfl, hb⟩; refine ⟨_, rfl, ?_⟩; have n0_ := Aside0.mk (below_step bA hb); clear HB; have HB := n0_; clear n0_; (try clear hb); (try clear hb2); (try clear hk); (try clear hi)) | ((with_reducible refine gate_callee (f := 18) rfl ?_); refine goesL_ (some 16) rfl rfl Tryd.func18 (by kernel_rfl) rfl #[.int .u64 a0] rfl aA ?_; (with_reducible refine (backfillref07_Bounds.calls k a0 t143 t144 _ A4.out).mono ?_); rintro e w22 ⟨rfl, hb⟩; refine ⟨_, rfl, ?_⟩; have n0_ := Aside0.mk (below_step bA hb); clear HB; have HB := n0_; clear n0_; (try clear hb); (try clear hb2); (try clear hk); (try clear hi)) | (go_at_call 19; (with_reducible refine (ladder_Half.calls a0 t145 _ ?side1 A6.out).mono ?_); (case side1 => exact laid_below hL bA); rintro e w23 ⟨rfl, hb⟩; have n0_ := Aside0.mk (below_step bA hb); clear HB; have HB := n0_; clear n0_; (try clear hb); (try clear hb2); (try clear hk); (try clear hi)) | (go_at_call 20; (with_reducible refine (backfillref07_Half.calls k a0 t146 _ A7.out).mono ?_); rintro e w24 ⟨rfl, hb⟩; have n0_ := Aside0.mk (below_step bA hb); clear HB; have HB := n0_; clear n0_; (try clear hb); (try clear hb2); (try clear hk); (try clear hi)))
      go_ret
      exact ⟨by first | rfl | (simp [errW_none, errW_some] <;> rfl) | (simp [*, errW_none, errW_some] <;> rfl), bA⟩
  · replace c5 := Bool.eq_false_iff.mpr c5
    subst c5
    have H1 : (some false) = some r := by rw [if_neg (show ¬ (false = true) by decide)] at H; exact H
    clear H
    have H := H1
    clear H1
    obtain rfl := Option.some.inj H
    go_enter Tryd.func4, Tryd.ntmps4
    go_wp2_with (first | ((with_reducible refine gate_callee (f := 12) rfl ?_); refine goesL_ (some 8) rfl rfl Tryd.func12 (by kernel_rfl) rfl #[] rfl aA ?_; (with_reducible refine (backfilllaw07_shown.calls  false _ ?side1 A2.out).mono ?_); (case side1 => exact laid_below hL bA); rintro e w25 ⟨rfl, hb⟩; refine ⟨_, rfl, ?_⟩; have n0_ := Aside0.mk (below_step bA hb); clear HB; have HB := n0_; clear n0_; (try clear hb); (try clear hb2); (try clear hk); (try clear hi)) | ((with_reducible refine gate_callee (f := 17) rfl ?_); refine goesL_ (some 11) rfl rfl Tryd.func17 (by kernel_rfl) rfl #[.int .u64 a0] rfl aA ?_; (with_reducible refine (ladder_Bounds.calls a0 t141 t142 _ ?side1 A3.out).mono ?_); (case side1 => exact laid_below hL bA); rintro e w26 ⟨rfl, hb⟩; refine ⟨_, rfl, ?_⟩; have n0_ := Aside0.mk (below_step bA hb); clear HB; have HB := n0_; clear n0_; (try clear hb); (try clear hb2); (try clear hk); (try clear hi)) | ((with_reducible refine gate_callee (f := 18) rfl ?_); refine goesL_ (some 16) rfl rfl Tryd.func18 (by kernel_rfl) rfl #[.int .u64 a0] rfl aA ?_; (with_reducible refine (backfillref07_Bounds.calls k a0 t143 t144 _ A4.out).mono ?_); rintro e w27 ⟨rfl, hb⟩; refine ⟨_, rfl, ?_⟩; have n0_ := Aside0.mk (below_step bA hb); clear HB; have HB := n0_; clear n0_; (try clear hb); (try clear hb2); (try clear hk); (try clear hi)))
    go_ret
    exact ⟨by first | rfl | (simp [errW_none, errW_some] <;> rfl) | (simp [*, errW_none, errW_some] <;> rfl), bA⟩

/-- THE ONE PURE STATEMENT of backfilllaw07_LadderTells: yours. -/
def backfilllaw07_LadderTells.Pure : Prop := ∀ (a0 : Int), (Lit.int .u64 a0).wf = true → ∃ k, backfilllaw07_LadderTells.f k a0 = some true
theorem backfilllaw07_LadderTells.walk (P : backfilllaw07_LadderTells.Pure) (a0 : Int) (w : World) (hL : LaidW w) (w0 : (Lit.int .u64 a0).wf = true) :
    Calls Tryd.prog 4 #[.int .u64 a0] w fun e w' => e = .returned (.bool true) ∧ Below w.heap.size w w' := by
  obtain ⟨k, h⟩ := P a0 w0
  refine (backfilllaw07_LadderTells.calls k a0 true w hL h).mono ?_
  rintro e w' ⟨rfl, hd⟩
  exact ⟨rfl, hd⟩

/-! ### backfilllaw07_LadderFalls: function 5 -/
mutual
def backfilllaw07_LadderFalls.j0 : Nat → Int → Int → Bool → Option (Bool)
  | 0, _, _, _ => none
  | k + 1, x0, x1, x5 => (ladder_Half.f x0).bind fun t148 => ((ladder_Half.f x1).bind fun t149 => (if t148 < t149 then (backfilllaw07_LadderFalls.j1 k x0 x5 true) else (if x0 < 18446744073709551615 then ((ladder_Half.f x0).bind fun t150 => ((ladder_Half.f (IntKind.u64.wrap (x0 + 1))).bind fun t151 => (backfilllaw07_LadderFalls.j1 k x0 x5 (decide (t150 < t151))))) else (backfilllaw07_LadderFalls.j1 k x0 x5 false))))
def backfilllaw07_LadderFalls.j1 : Nat → Int → Bool → Bool → Option (Bool)
  | 0, _, _, _ => none
  | k + 1, x0, x5, x35 => if x35 = true then (some false) else ((ladder_Half.f (IntKind.u64.wrap ((Int.tmod (x0 / 4294967296) 63) * 4294967296))).bind fun t152 => (if 0 ≤ (Int.tmod (x0 / 4294967296) 63) then (if t152 = (shr .u64 9223372036854775808 (Int.tmod (x0 / 4294967296) 63)) then (if x0 ≥ 9223372036854775808 then (some x5) else ((ladder_Bounds.f x0).bind fun bt153 => ((ladder_Bounds.f (IntKind.u64.wrap (2 * x0))).bind fun bt155 => (if x5 = true then (if bt153.1 ≤ bt153.2 then ((backfillref01_Mul.f bt153.1 bt153.1).bind fun bt157 => ((backfillref01_Mul.f 9223372036854775808 bt155.2).bind fun bt159 => ((backfillref01_Cmp.f k bt157.1 bt157.2 bt159.1 bt159.2).bind fun t161 => (if t161 ≤ 0 then ((backfillref01_Mul.f bt153.2 bt153.2).bind fun bt162 => ((backfillref01_Mul.f 9223372036854775808 bt155.1).bind fun bt164 => ((backfillref01_Cmp.f k bt162.1 bt162.2 bt164.1 bt164.2).bind fun t166 => (some (decide (t166 ≥ 0)))))) else (some false))))) else (some false)) else (some false))))) else (some false)) else (none)))
end
def backfilllaw07_LadderFalls.f (k : Nat) (a0 : Int) (a1 : Int) : Option (Bool) := (backfilllaw07_shown.f).bind fun t147 => (if a0 > a1 then (backfilllaw07_LadderFalls.j0 k a1 a0 t147) else (backfilllaw07_LadderFalls.j0 k a0 a1 t147))
theorem backfilllaw07_LadderFalls.mono_l : ∀ k, (∀ y0 y1 y2, LeO (backfilllaw07_LadderFalls.j0 k y0 y1 y2) (backfilllaw07_LadderFalls.j0 (k + 1) y0 y1 y2)) ∧ (∀ y0 y1 y2, LeO (backfilllaw07_LadderFalls.j1 k y0 y1 y2) (backfilllaw07_LadderFalls.j1 (k + 1) y0 y1 y2))
  | 0 => ⟨fun _ _ _ r h => by simp [backfilllaw07_LadderFalls.j0] at h, fun _ _ _ r h => by simp [backfilllaw07_LadderFalls.j1] at h⟩
  | k + 1 => by
    obtain ⟨ih0, ih1⟩ := backfilllaw07_LadderFalls.mono_l k
    refine ⟨?_, ?_⟩
    · intro y0 y1 y2
      unfold backfilllaw07_LadderFalls.j0
      repeat' first
      | (with_reducible exact ih0 _ _ _)
      | (with_reducible exact ih1 _ _ _)
      | (with_reducible exact backfillref01_Cmp.mono _ _ _ _ _)
      | (with_reducible exact LeO.refl _)
      | (with_reducible exact LeO.none _)
      | (with_reducible refine LeO.ite ?_ ?_)
      | (with_reducible refine LeO.bind ?_ (fun _ => ?_))
      | exact ih0 _ _ _
      | exact ih1 _ _ _
      | exact backfillref01_Cmp.mono _ _ _ _ _
      | exact LeO.none _
      | refine LeO.ite ?_ ?_
      | refine LeO.bind ?_ (fun _ => ?_)
    · intro y0 y1 y2
      unfold backfilllaw07_LadderFalls.j1
      repeat' first
      | (with_reducible exact ih0 _ _ _)
      | (with_reducible exact ih1 _ _ _)
      | (with_reducible exact backfillref01_Cmp.mono _ _ _ _ _)
      | (with_reducible exact LeO.refl _)
      | (with_reducible exact LeO.none _)
      | (with_reducible refine LeO.ite ?_ ?_)
      | (with_reducible refine LeO.bind ?_ (fun _ => ?_))
      | exact ih0 _ _ _
      | exact ih1 _ _ _
      | exact backfillref01_Cmp.mono _ _ _ _ _
      | exact LeO.none _
      | refine LeO.ite ?_ ?_
      | refine LeO.bind ?_ (fun _ => ?_)
theorem backfilllaw07_LadderFalls.mono : ∀ a0 a1 k, LeO (backfilllaw07_LadderFalls.f k a0 a1) (backfilllaw07_LadderFalls.f (k + 1) a0 a1) := by
  intro a0 a1 k
  obtain ⟨ih0, ih1⟩ := backfilllaw07_LadderFalls.mono_l k
  unfold backfilllaw07_LadderFalls.f
  repeat' first
      | (with_reducible exact ih0 _ _ _)
      | (with_reducible exact ih1 _ _ _)
      | (with_reducible exact backfillref01_Cmp.mono _ _ _ _ _)
      | (with_reducible exact LeO.refl _)
      | (with_reducible exact LeO.none _)
      | (with_reducible refine LeO.ite ?_ ?_)
      | (with_reducible refine LeO.bind ?_ (fun _ => ?_))
      | exact ih0 _ _ _
      | exact ih1 _ _ _
      | exact backfillref01_Cmp.mono _ _ _ _ _
      | exact LeO.none _
      | refine LeO.ite ?_ ?_
      | refine LeO.bind ?_ (fun _ => ?_)
set_option maxHeartbeats 8000000 in
set_option maxRecDepth 100000 in
theorem backfilllaw07_LadderFalls.calls (k : Nat) (a0 : Int) (a1 : Int) (r : Bool) (w : World) (hL : LaidW w) (h : backfilllaw07_LadderFalls.f k a0 a1 = some r) :
    Calls Tryd.prog 5 #[.int .u64 a0, .int .u64 a1] w fun e w' => e = .returned (.bool r) ∧ Below w.heap.size w w' := by
  have HB := Aside0.mk (Below.refl w.heap.size w)
  have H : ((backfilllaw07_shown.f).bind fun t147 => (if a0 > a1 then (backfilllaw07_LadderFalls.j0 k a1 a0 t147) else (backfilllaw07_LadderFalls.j0 k a0 a1 t147))) = some r := h
  clear h
  replace H := Option.bind_eq_some_iff.mp H
  obtain ⟨t147, A30, H⟩ := H
  replace H : (if a0 > a1 then (backfilllaw07_LadderFalls.j0 k a1 a0 t147) else (backfilllaw07_LadderFalls.j0 k a0 a1 t147)) = some r := H
  have A3 := Aside0.mk A30
  clear A30
  have HC4 := Aside0.mk H
  clear H
  go_enter Tryd.func5, Tryd.ntmps5
  go_upto_if 15 with (first | ((with_reducible refine gate_callee (f := 12) rfl ?_); refine goesL_ (some 12) rfl rfl Tryd.func12 (by kernel_rfl) rfl #[] rfl aA ?_; (with_reducible refine (backfilllaw07_shown.calls  t147 _ ?side1 A3.out).mono ?_); (case side1 => exact laid_below hL bA); rintro e w5 ⟨rfl, hb⟩; refine ⟨_, rfl, ?_⟩; have n0_ := Aside0.mk (below_step bA hb); clear HB; have HB := n0_; clear n0_; (try clear hb); (try clear hb2); (try clear hk); (try clear hi)))
  (try simp only [Act.put, List.setIfInBounds_toArray, List.set_cons_zero, List.set_cons_succ])
  go_cut [0, 1] (fun v0 v1 wc => ∃ (kq : Nat) (x0_3 : Int) (x1_3 : Int), v0 = .int .u64 x0_3 ∧ v1 = .int .u64 x1_3 ∧ Aside0 (backfilllaw07_LadderFalls.j0 kq x0_3 x1_3 t147 = some r) ∧ Aside0 (kq ≤ k) ∧ Aside0 (Below w.heap.size w wc))
  case first =>
    have H := HC4.out
    clear HC4
    by_cases c6 : a0 > a1
    · rw [if_pos c6] at H
      have c6b0 : decide (a1 < a0) = true := decide_eq_true c6
      clear c6
      (first | rw [c6b0] | (simp only [i64_w, i32_w]; rw [c6b0]) | skip)
      have H' := Aside0.mk H
      clear H
      go_wp2
      go_meet
      case rel => exact ⟨_, (a1), (a0), (by first | rfl | (simp; done) | (simp [*]; done)), (by first | rfl | (simp; done) | (simp [*]; done)), H', ⟨by first | omega | exact Nat.le_refl _⟩, ⟨bA⟩⟩
    · rw [if_neg c6] at H
      have c6b0 : decide (a1 < a0) = false := decide_eq_false c6
      clear c6
      (first | rw [c6b0] | (simp only [i64_w, i32_w]; rw [c6b0]) | skip)
      have H' := Aside0.mk H
      clear H
      go_wp2
      go_meet
      case rel => exact ⟨_, (a0), (a1), (by first | rfl | (simp; done) | (simp [*]; done)), (by first | rfl | (simp; done) | (simp [*]; done)), H', ⟨by first | omega | exact Nat.le_refl _⟩, ⟨bA⟩⟩
  case rest =>
    clear HC4
    try clear c1
    try clear p2
    try clear c5
    try clear c6
    try clear c6b0
    obtain ⟨kq, x0_3, x1_3, rfl, rfl, HA, HJ3, HB⟩ := hcut
    cases kq with
    | zero => exact absurd HA.out (by simp [backfilllaw07_LadderFalls.j0])
    | succ kj3 =>
      have H := HA.out
      clear HA
      simp only [backfilllaw07_LadderFalls.j0] at H
      have HC7 := Aside0.mk H
      clear H
      go_upto_region 6 with (fail)
      go_cut [35] (fun v35 wc => ∃ (kq : Nat) (x35_6 : Bool), v35 = .bool x35_6 ∧ Aside0 (backfilllaw07_LadderFalls.j1 kq x0_3 t147 x35_6 = some r) ∧ Aside0 (kq ≤ kj3) ∧ Aside0 (Below w.heap.size w wc))
      case first =>
        have H := HC7.out
        clear HC7
        replace H := Option.bind_eq_some_iff.mp H
        obtain ⟨t148, A80, H⟩ := H
        replace H : ((ladder_Half.f x1_3).bind fun t149 => (if t148 < t149 then (backfilllaw07_LadderFalls.j1 kj3 x0_3 t147 true) else (if x0_3 < 18446744073709551615 then ((ladder_Half.f x0_3).bind fun t150 => ((ladder_Half.f (IntKind.u64.wrap (x0_3 + 1))).bind fun t151 => (backfilllaw07_LadderFalls.j1 kj3 x0_3 t147 (decide (t150 < t151))))) else (backfilllaw07_LadderFalls.j1 kj3 x0_3 t147 false)))) = some r := H
        have A8 := Aside0.mk A80
        clear A80
        replace H := Option.bind_eq_some_iff.mp H
        obtain ⟨t149, A90, H⟩ := H
        replace H : (if t148 < t149 then (backfilllaw07_LadderFalls.j1 kj3 x0_3 t147 true) else (if x0_3 < 18446744073709551615 then ((ladder_Half.f x0_3).bind fun t150 => ((ladder_Half.f (IntKind.u64.wrap (x0_3 + 1))).bind fun t151 => (backfilllaw07_LadderFalls.j1 kj3 x0_3 t147 (decide (t150 < t151))))) else (backfilllaw07_LadderFalls.j1 kj3 x0_3 t147 false))) = some r := H
        have A9 := Aside0.mk A90
        clear A90
        by_cases c10 : t148 < t149
        · rw [if_pos c10] at H
          have c10b0 : decide (t148 < t149) = true := decide_eq_true c10
          clear c10
          (first | rw [c10b0] | (simp only [i64_w, i32_w]; rw [c10b0]) | skip)
          have H' := Aside0.mk H
          clear H
          go_wp2_with (first | ((with_reducible refine gate_callee (f := 19) rfl ?_); refine goesL_ (some 20) rfl rfl Tryd.func19 (by kernel_rfl) rfl #[.int .u64 x0_3] rfl aA ?_; (with_reducible refine (ladder_Half.calls x0_3 t148 _ ?side1 A8.out).mono ?_); (case side1 => exact laid_below hL bA); rintro e w11 ⟨rfl, hb⟩; refine ⟨_, rfl, ?_⟩; have n0_ := Aside0.mk (below_step bA hb); clear HB; have HB := n0_; clear n0_; (try clear hb); (try clear hb2); (try clear hk); (try clear hi)) | ((with_reducible refine gate_callee (f := 19) rfl ?_); refine goesL_ (some 22) rfl rfl Tryd.func19 (by kernel_rfl) rfl #[.int .u64 x1_3] rfl aA ?_; (with_reducible refine (ladder_Half.calls x1_3 t149 _ ?side1 A9.out).mono ?_); (case side1 => exact laid_below hL bA); rintro e w12 ⟨rfl, hb⟩; refine ⟨_, rfl, ?_⟩; have n0_ := Aside0.mk (below_step bA hb); clear HB; have HB := n0_; clear n0_; (try clear hb); (try clear hb2); (try clear hk); (try clear hi)))
          go_meet
          case rel => exact ⟨_, (true), (by first | rfl | (simp; done) | (simp [*]; done)), H', ⟨by have := HJ3.out; first | omega | exact Nat.le_refl _⟩, ⟨bA⟩⟩
        · rw [if_neg c10] at H
          have c10b0 : decide (t148 < t149) = false := decide_eq_false c10
          clear c10
          (first | rw [c10b0] | (simp only [i64_w, i32_w]; rw [c10b0]) | skip)
          by_cases c13 : x0_3 < 18446744073709551615
          · rw [if_pos c13] at H
            have c13b0 : decide (x0_3 < 18446744073709551615) = true := decide_eq_true c13
            clear c13
            replace H := Option.bind_eq_some_iff.mp H
            obtain ⟨t150, A140, H⟩ := H
            replace H : ((ladder_Half.f (IntKind.u64.wrap (x0_3 + 1))).bind fun t151 => (backfilllaw07_LadderFalls.j1 kj3 x0_3 t147 (decide (t150 < t151)))) = some r := H
            have A14 := Aside0.mk A140
            clear A140
            replace H := Option.bind_eq_some_iff.mp H
            obtain ⟨t151, A150, H⟩ := H
            replace H : (backfilllaw07_LadderFalls.j1 kj3 x0_3 t147 (decide (t150 < t151))) = some r := H
            have A15 := Aside0.mk A150
            clear A150
            have H' := Aside0.mk H
            clear H
            go_wp2_with (first | ((with_reducible refine gate_callee (f := 19) rfl ?_); refine goesL_ (some 20) rfl rfl Tryd.func19 (by kernel_rfl) rfl #[.int .u64 x0_3] rfl aA ?_; (with_reducible refine (ladder_Half.calls x0_3 t148 _ ?side1 A8.out).mono ?_); (case side1 => exact laid_below hL bA); rintro e w16 ⟨rfl, hb⟩; refine ⟨_, rfl, ?_⟩; have n0_ := Aside0.mk (below_step bA hb); clear HB; have HB := n0_; clear n0_; (try clear hb); (try clear hb2); (try clear hk); (try clear hi)) | ((with_reducible refine gate_callee (f := 19) rfl ?_); refine goesL_ (some 22) rfl rfl Tryd.func19 (by kernel_rfl) rfl #[.int .u64 x1_3] rfl aA ?_; (with_reducible refine (ladder_Half.calls x1_3 t149 _ ?side1 A9.out).mono ?_); (case side1 => exact laid_below hL bA); rintro e w17 ⟨rfl, hb⟩; refine ⟨_, rfl, ?_⟩; have n0_ := Aside0.mk (below_step bA hb); clear HB; have HB := n0_; clear n0_; (try clear hb); (try clear hb2); (try clear hk); (try clear hi)) | (go_at_call 19; (with_reducible refine (ladder_Half.calls x0_3 t150 _ ?side1 A14.out).mono ?_); (case side1 => exact laid_below hL bA); rintro e w18 ⟨rfl, hb⟩; have n0_ := Aside0.mk (below_step bA hb); clear HB; have HB := n0_; clear n0_; (try clear hb); (try clear hb2); (try clear hk); (try clear hi)) | (go_at_call 19; (with_reducible refine (ladder_Half.calls (IntKind.u64.wrap (x0_3 + 1)) t151 _ ?side1 A15.out).mono ?_); (case side1 => exact laid_below hL bA); rintro e w19 ⟨rfl, hb⟩; have n0_ := Aside0.mk (below_step bA hb); clear HB; have HB := n0_; clear n0_; (try clear hb); (try clear hb2); (try clear hk); (try clear hi)))
            go_meet
            case rel => exact ⟨_, (decide (t150 < t151)), (by first | rfl | (simp; done) | (simp [*]; done)), H', ⟨by have := HJ3.out; first | omega | exact Nat.le_refl _⟩, ⟨bA⟩⟩
          · rw [if_neg c13] at H
            have c13b0 : decide (x0_3 < 18446744073709551615) = false := decide_eq_false c13
            clear c13
            have H' := Aside0.mk H
            clear H
            go_wp2_with (first | ((with_reducible refine gate_callee (f := 19) rfl ?_); refine goesL_ (some 20) rfl rfl Tryd.func19 (by kernel_rfl) rfl #[.int .u64 x0_3] rfl aA ?_; (with_reducible refine (ladder_Half.calls x0_3 t148 _ ?side1 A8.out).mono ?_); (case side1 => exact laid_below hL bA); rintro e w20 ⟨rfl, hb⟩; refine ⟨_, rfl, ?_⟩; have n0_ := Aside0.mk (below_step bA hb); clear HB; have HB := n0_; clear n0_; (try clear hb); (try clear hb2); (try clear hk); (try clear hi)) | ((with_reducible refine gate_callee (f := 19) rfl ?_); refine goesL_ (some 22) rfl rfl Tryd.func19 (by kernel_rfl) rfl #[.int .u64 x1_3] rfl aA ?_; (with_reducible refine (ladder_Half.calls x1_3 t149 _ ?side1 A9.out).mono ?_); (case side1 => exact laid_below hL bA); rintro e w21 ⟨rfl, hb⟩; refine ⟨_, rfl, ?_⟩; have n0_ := Aside0.mk (below_step bA hb); clear HB; have HB := n0_; clear n0_; (try clear hb); (try clear hb2); (try clear hk); (try clear hi)))
            go_meet
            case rel => exact ⟨_, (false), (by first | rfl | (simp; done) | (simp [*]; done)), H', ⟨by have := HJ3.out; first | omega | exact Nat.le_refl _⟩, ⟨bA⟩⟩
      case rest =>
        clear HC7
        try clear c1
        try clear p2
        try clear c5
        try clear c6
        try clear c6b0
        try clear c10
        try clear c10b0
        try clear c12
        try clear c13
        try clear c13b0
        try clear c19
        try clear p2
        obtain ⟨kq, x35_6, rfl, HA, HJ6, HB⟩ := hcut
        cases kq with
        | zero => exact absurd HA.out (by simp [backfilllaw07_LadderFalls.j1])
        | succ kj6 =>
          have H := HA.out
          clear HA
          simp only [backfilllaw07_LadderFalls.j1] at H
          by_cases c22 : x35_6 = true
          · subst c22
            have H1 : (some false) = some r := by rw [if_pos rfl] at H; exact H
            clear H
            have H := H1
            clear H1
            obtain rfl := Option.some.inj H
            go_wp2
            go_ret
            exact ⟨by first | rfl | (simp [errW_none, errW_some] <;> rfl) | (simp [*, errW_none, errW_some] <;> rfl), bA⟩
          · replace c22 := Bool.eq_false_iff.mpr c22
            subst c22
            have H1 : ((ladder_Half.f (IntKind.u64.wrap ((Int.tmod (x0_3 / 4294967296) 63) * 4294967296))).bind fun t152 => (if 0 ≤ (Int.tmod (x0_3 / 4294967296) 63) then (if t152 = (shr .u64 9223372036854775808 (Int.tmod (x0_3 / 4294967296) 63)) then (if x0_3 ≥ 9223372036854775808 then (some t147) else ((ladder_Bounds.f x0_3).bind fun bt153 => ((ladder_Bounds.f (IntKind.u64.wrap (2 * x0_3))).bind fun bt155 => (if t147 = true then (if bt153.1 ≤ bt153.2 then ((backfillref01_Mul.f bt153.1 bt153.1).bind fun bt157 => ((backfillref01_Mul.f 9223372036854775808 bt155.2).bind fun bt159 => ((backfillref01_Cmp.f kj6 bt157.1 bt157.2 bt159.1 bt159.2).bind fun t161 => (if t161 ≤ 0 then ((backfillref01_Mul.f bt153.2 bt153.2).bind fun bt162 => ((backfillref01_Mul.f 9223372036854775808 bt155.1).bind fun bt164 => ((backfillref01_Cmp.f kj6 bt162.1 bt162.2 bt164.1 bt164.2).bind fun t166 => (some (decide (t166 ≥ 0)))))) else (some false))))) else (some false)) else (some false))))) else (some false)) else (none))) = some r := by rw [if_neg (show ¬ (false = true) by decide)] at H; exact H
            clear H
            have H := H1
            clear H1
            replace H := Option.bind_eq_some_iff.mp H
            obtain ⟨t152, A230, H⟩ := H
            replace H : (if 0 ≤ (Int.tmod (x0_3 / 4294967296) 63) then (if t152 = (shr .u64 9223372036854775808 (Int.tmod (x0_3 / 4294967296) 63)) then (if x0_3 ≥ 9223372036854775808 then (some t147) else ((ladder_Bounds.f x0_3).bind fun bt153 => ((ladder_Bounds.f (IntKind.u64.wrap (2 * x0_3))).bind fun bt155 => (if t147 = true then (if bt153.1 ≤ bt153.2 then ((backfillref01_Mul.f bt153.1 bt153.1).bind fun bt157 => ((backfillref01_Mul.f 9223372036854775808 bt155.2).bind fun bt159 => ((backfillref01_Cmp.f kj6 bt157.1 bt157.2 bt159.1 bt159.2).bind fun t161 => (if t161 ≤ 0 then ((backfillref01_Mul.f bt153.2 bt153.2).bind fun bt162 => ((backfillref01_Mul.f 9223372036854775808 bt155.1).bind fun bt164 => ((backfillref01_Cmp.f kj6 bt162.1 bt162.2 bt164.1 bt164.2).bind fun t166 => (some (decide (t166 ≥ 0)))))) else (some false))))) else (some false)) else (some false))))) else (some false)) else (none)) = some r := H
            have A23 := Aside0.mk A230
            clear A230
            obtain ⟨ji24, hji24⟩ : ∃ j_ : Int, (Int.tmod (x0_3 / 4294967296) 63) = j_ := ⟨_, rfl⟩
            replace H : (if 0 ≤ (ji24) then (if t152 = (shr .u64 9223372036854775808 (ji24)) then (if x0_3 ≥ 9223372036854775808 then (some t147) else ((ladder_Bounds.f x0_3).bind fun bt153 => ((ladder_Bounds.f (IntKind.u64.wrap (2 * x0_3))).bind fun bt155 => (if t147 = true then (if bt153.1 ≤ bt153.2 then ((backfillref01_Mul.f bt153.1 bt153.1).bind fun bt157 => ((backfillref01_Mul.f 9223372036854775808 bt155.2).bind fun bt159 => ((backfillref01_Cmp.f kj6 bt157.1 bt157.2 bt159.1 bt159.2).bind fun t161 => (if t161 ≤ 0 then ((backfillref01_Mul.f bt153.2 bt153.2).bind fun bt162 => ((backfillref01_Mul.f 9223372036854775808 bt155.1).bind fun bt164 => ((backfillref01_Cmp.f kj6 bt162.1 bt162.2 bt164.1 bt164.2).bind fun t166 => (some (decide (t166 ≥ 0)))))) else (some false))))) else (some false)) else (some false))))) else (some false)) else (none)) = some r := by first | (rw [hji24] at H; exact H) | (simp only [hji24] at H ⊢; exact H)
            (try rw [hji24] at A23)
            by_cases c25 : 0 ≤ (ji24)
            · rw [if_pos c25] at H
              have c25b0 := eq_true c25
              have c25b1 : decide (0 ≤ (ji24)) = true := decide_eq_true c25
              clear c25
              obtain ⟨ji26, hji26⟩ : ∃ j_ : Int, (shr .u64 9223372036854775808 (ji24)) = j_ := ⟨_, rfl⟩
              replace H : (if t152 = (ji26) then (if x0_3 ≥ 9223372036854775808 then (some t147) else ((ladder_Bounds.f x0_3).bind fun bt153 => ((ladder_Bounds.f (IntKind.u64.wrap (2 * x0_3))).bind fun bt155 => (if t147 = true then (if bt153.1 ≤ bt153.2 then ((backfillref01_Mul.f bt153.1 bt153.1).bind fun bt157 => ((backfillref01_Mul.f 9223372036854775808 bt155.2).bind fun bt159 => ((backfillref01_Cmp.f kj6 bt157.1 bt157.2 bt159.1 bt159.2).bind fun t161 => (if t161 ≤ 0 then ((backfillref01_Mul.f bt153.2 bt153.2).bind fun bt162 => ((backfillref01_Mul.f 9223372036854775808 bt155.1).bind fun bt164 => ((backfillref01_Cmp.f kj6 bt162.1 bt162.2 bt164.1 bt164.2).bind fun t166 => (some (decide (t166 ≥ 0)))))) else (some false))))) else (some false)) else (some false))))) else (some false)) = some r := by first | (rw [hji26] at H; exact H) | (simp only [hji26] at H ⊢; exact H)
              (try rw [hji26] at A23)
              have hji26_ : (9223372036854775808 / 2 ^ min (ji24).toNat 64) = ji26 := hji26
              have hji26z : (ji24) ≤ 64 → (9223372036854775808 / 2 ^ (ji24).toNat) = ji26 := shr_small hji26
              by_cases c27 : t152 = (ji26)
              · rw [if_pos c27] at H
                have c27b0 : (t152 == (ji26)) = true := beq_iff_eq.mpr c27
                have c27b1 : (t152 != (ji26)) = false := bne_eq_false_iff_eq.mpr c27
                clear c27
                by_cases c28 : x0_3 ≥ 9223372036854775808
                · rw [if_pos c28] at H
                  have c28b0 : decide (9223372036854775808 ≤ x0_3) = true := decide_eq_true c28
                  clear c28
                  obtain rfl := Option.some.inj H
                  go_wp2_with (first | ((with_reducible refine gate_callee (f := 19) rfl ?_); refine goesL_ (some 41) rfl rfl Tryd.func19 (by kernel_rfl) rfl #[.int .u64 (IntKind.u64.wrap ((ji24) * 4294967296))] rfl (by (try simp only [List.map_toArray, List.map_cons, List.map_nil]); first | done | (simp only [hji24]; rfl) | rfl | (simp only [List.length_drop, List.length_take]; rfl)) ?_; (with_reducible refine (ladder_Half.calls (IntKind.u64.wrap ((ji24) * 4294967296)) t152 _ ?side1 A23.out).mono ?_); (case side1 => exact laid_below hL bA); rintro e w29 ⟨rfl, hb⟩; refine ⟨_, rfl, ?_⟩; have n0_ := Aside0.mk (below_step bA hb); clear HB; have HB := n0_; clear n0_; (try clear hb); (try clear hb2); (try clear hk); (try clear hi)))
                  go_ret
                  exact ⟨by first | rfl | (simp [errW_none, errW_some] <;> rfl) | (simp only [← hji24, ← hji26]; first | rfl | (simp [errW_none, errW_some] <;> rfl)) | (simp [*, errW_none, errW_some] <;> rfl), bA⟩
                · rw [if_neg c28] at H
                  have c28b0 : decide (9223372036854775808 ≤ x0_3) = false := decide_eq_false c28
                  clear c28
                  replace H := Option.bind_eq_some_iff.mp H
                  obtain ⟨⟨t153, t154⟩, A300, H⟩ := H
                  replace H : ((ladder_Bounds.f (IntKind.u64.wrap (2 * x0_3))).bind fun bt155 => (if t147 = true then (if t153 ≤ t154 then ((backfillref01_Mul.f t153 t153).bind fun bt157 => ((backfillref01_Mul.f 9223372036854775808 bt155.2).bind fun bt159 => ((backfillref01_Cmp.f kj6 bt157.1 bt157.2 bt159.1 bt159.2).bind fun t161 => (if t161 ≤ 0 then ((backfillref01_Mul.f t154 t154).bind fun bt162 => ((backfillref01_Mul.f 9223372036854775808 bt155.1).bind fun bt164 => ((backfillref01_Cmp.f kj6 bt162.1 bt162.2 bt164.1 bt164.2).bind fun t166 => (some (decide (t166 ≥ 0)))))) else (some false))))) else (some false)) else (some false))) = some r := H
                  have A30 := Aside0.mk A300
                  clear A300
                  replace H := Option.bind_eq_some_iff.mp H
                  obtain ⟨⟨t155, t156⟩, A310, H⟩ := H
                  replace H : (if t147 = true then (if t153 ≤ t154 then ((backfillref01_Mul.f t153 t153).bind fun bt157 => ((backfillref01_Mul.f 9223372036854775808 t156).bind fun bt159 => ((backfillref01_Cmp.f kj6 bt157.1 bt157.2 bt159.1 bt159.2).bind fun t161 => (if t161 ≤ 0 then ((backfillref01_Mul.f t154 t154).bind fun bt162 => ((backfillref01_Mul.f 9223372036854775808 t155).bind fun bt164 => ((backfillref01_Cmp.f kj6 bt162.1 bt162.2 bt164.1 bt164.2).bind fun t166 => (some (decide (t166 ≥ 0)))))) else (some false))))) else (some false)) else (some false)) = some r := H
                  have A31 := Aside0.mk A310
                  clear A310
                  by_cases c32 : t147 = true
                  · subst c32
                    have H1 : (if t153 ≤ t154 then ((backfillref01_Mul.f t153 t153).bind fun bt157 => ((backfillref01_Mul.f 9223372036854775808 t156).bind fun bt159 => ((backfillref01_Cmp.f kj6 bt157.1 bt157.2 bt159.1 bt159.2).bind fun t161 => (if t161 ≤ 0 then ((backfillref01_Mul.f t154 t154).bind fun bt162 => ((backfillref01_Mul.f 9223372036854775808 t155).bind fun bt164 => ((backfillref01_Cmp.f kj6 bt162.1 bt162.2 bt164.1 bt164.2).bind fun t166 => (some (decide (t166 ≥ 0)))))) else (some false))))) else (some false)) = some r := by rw [if_pos rfl] at H; exact H
                    clear H
                    have H := H1
                    clear H1
                    by_cases c33 : t153 ≤ t154
                    · rw [if_pos c33] at H
                      have c33b0 : decide (t153 ≤ t154) = true := decide_eq_true c33
                      clear c33
                      replace H := Option.bind_eq_some_iff.mp H
                      obtain ⟨⟨t157, t158⟩, A340, H⟩ := H
                      replace H : ((backfillref01_Mul.f 9223372036854775808 t156).bind fun bt159 => ((backfillref01_Cmp.f kj6 t157 t158 bt159.1 bt159.2).bind fun t161 => (if t161 ≤ 0 then ((backfillref01_Mul.f t154 t154).bind fun bt162 => ((backfillref01_Mul.f 9223372036854775808 t155).bind fun bt164 => ((backfillref01_Cmp.f kj6 bt162.1 bt162.2 bt164.1 bt164.2).bind fun t166 => (some (decide (t166 ≥ 0)))))) else (some false)))) = some r := H
                      have A34 := Aside0.mk A340
                      clear A340
                      replace H := Option.bind_eq_some_iff.mp H
                      obtain ⟨⟨t159, t160⟩, A350, H⟩ := H
                      replace H : ((backfillref01_Cmp.f kj6 t157 t158 t159 t160).bind fun t161 => (if t161 ≤ 0 then ((backfillref01_Mul.f t154 t154).bind fun bt162 => ((backfillref01_Mul.f 9223372036854775808 t155).bind fun bt164 => ((backfillref01_Cmp.f kj6 bt162.1 bt162.2 bt164.1 bt164.2).bind fun t166 => (some (decide (t166 ≥ 0)))))) else (some false))) = some r := H
                      have A35 := Aside0.mk A350
                      clear A350
                      replace H := Option.bind_eq_some_iff.mp H
                      obtain ⟨t161, A360, H⟩ := H
                      replace H : (if t161 ≤ 0 then ((backfillref01_Mul.f t154 t154).bind fun bt162 => ((backfillref01_Mul.f 9223372036854775808 t155).bind fun bt164 => ((backfillref01_Cmp.f kj6 bt162.1 bt162.2 bt164.1 bt164.2).bind fun t166 => (some (decide (t166 ≥ 0)))))) else (some false)) = some r := H
                      have A36 := Aside0.mk A360
                      clear A360
                      by_cases c37 : t161 ≤ 0
                      · rw [if_pos c37] at H
                        have c37b0 : decide (t161 ≤ 0) = true := decide_eq_true c37
                        clear c37
                        replace H := Option.bind_eq_some_iff.mp H
                        obtain ⟨⟨t162, t163⟩, A380, H⟩ := H
                        replace H : ((backfillref01_Mul.f 9223372036854775808 t155).bind fun bt164 => ((backfillref01_Cmp.f kj6 t162 t163 bt164.1 bt164.2).bind fun t166 => (some (decide (t166 ≥ 0))))) = some r := H
                        have A38 := Aside0.mk A380
                        clear A380
                        replace H := Option.bind_eq_some_iff.mp H
                        obtain ⟨⟨t164, t165⟩, A390, H⟩ := H
                        replace H : ((backfillref01_Cmp.f kj6 t162 t163 t164 t165).bind fun t166 => (some (decide (t166 ≥ 0)))) = some r := H
                        have A39 := Aside0.mk A390
                        clear A390
                        replace H := Option.bind_eq_some_iff.mp H
                        obtain ⟨t166, A400, H⟩ := H
                        replace H : (some (decide (t166 ≥ 0))) = some r := H
                        have A40 := Aside0.mk A400
                        clear A400
                        obtain rfl := Option.some.inj H
                        go_wp2_with (first | ((with_reducible refine gate_callee (f := 19) rfl ?_); refine goesL_ (some 41) rfl rfl Tryd.func19 (by kernel_rfl) rfl #[.int .u64 (IntKind.u64.wrap ((ji24) * 4294967296))] rfl (by (try simp only [List.map_toArray, List.map_cons, List.map_nil]); first | done | (simp only [hji24]; rfl) | rfl | (simp only [List.length_drop, List.length_take]; rfl)) ?_; (with_reducible refine (ladder_Half.calls (IntKind.u64.wrap ((ji24) * 4294967296)) t152 _ ?side1 A23.out).mono ?_); (case side1 => exact laid_below hL bA); rintro e w41 ⟨rfl, hb⟩; refine ⟨_, rfl, ?_⟩; have n0_ := Aside0.mk (below_step bA hb); clear HB; have HB := n0_; clear n0_; (try clear hb); (try clear hb2); (try clear hk); (try clear hi)) | ((with_reducible refine gate_callee (f := 17) rfl ?_); refine goesL_ (some 50) rfl rfl Tryd.func17 (by kernel_rfl) rfl #[.int .u64 x0_3] rfl aA ?_; (with_reducible refine (ladder_Bounds.calls x0_3 t153 t154 _ ?side1 A30.out).mono ?_); (case side1 => exact laid_below hL bA); rintro e w42 ⟨rfl, hb⟩; refine ⟨_, rfl, ?_⟩; have n0_ := Aside0.mk (below_step bA hb); clear HB; have HB := n0_; clear n0_; (try clear hb); (try clear hb2); (try clear hk); (try clear hi)) | ((with_reducible refine gate_callee (f := 17) rfl ?_); refine goesL_ (some 56) rfl rfl Tryd.func17 (by kernel_rfl) rfl #[.int .u64 (IntKind.u64.wrap (2 * x0_3))] rfl aA ?_; (with_reducible refine (ladder_Bounds.calls (IntKind.u64.wrap (2 * x0_3)) t155 t156 _ ?side1 A31.out).mono ?_); (case side1 => exact laid_below hL bA); rintro e w43 ⟨rfl, hb⟩; refine ⟨_, rfl, ?_⟩; have n0_ := Aside0.mk (below_step bA hb); clear HB; have HB := n0_; clear n0_; (try clear hb); (try clear hb2); (try clear hk); (try clear hi)) | (go_at_call 16; (with_reducible refine (backfillref01_Mul.calls t153 t153 t157 t158 _ A34.out).mono ?_); rintro e w44 ⟨rfl, hb⟩; have n0_ := Aside0.mk (below_step bA hb); clear HB; have HB := n0_; clear n0_; (try clear hb); (try clear hb2); (try clear hk); (try clear hi)) | (go_at_call 16; (with_reducible refine (backfillref01_Mul.calls 9223372036854775808 t156 t159 t160 _ A35.out).mono ?_); rintro e w45 ⟨rfl, hb⟩; have n0_ := Aside0.mk (below_step bA hb); clear HB; have HB := n0_; clear n0_; (try clear hb); (try clear hb2); (try clear hk); (try clear hi)) | (go_at_call 15; (with_reducible refine (backfillref01_Cmp.calls kj6 t157 t158 t159 t160 t161 _ A36.out).mono ?_); rintro e w46 ⟨rfl, hb⟩; have n0_ := Aside0.mk (below_step bA hb); clear HB; have HB := n0_; clear n0_; (try clear hb); (try clear hb2); (try clear hk); (try clear hi)) | (go_at_call 16; (with_reducible refine (backfillref01_Mul.calls t154 t154 t162 t163 _ A38.out).mono ?_); rintro e w47 ⟨rfl, hb⟩; have n0_ := Aside0.mk (below_step bA hb); clear HB; have HB := n0_; clear n0_; (try clear hb); (try clear hb2); (try clear hk); (try clear hi)) | (go_at_call 16; (with_reducible refine (backfillref01_Mul.calls 9223372036854775808 t155 t164 t165 _ A39.out).mono ?_); rintro e w48 ⟨rfl, hb⟩; have n0_ := Aside0.mk (below_step bA hb); clear HB; have HB := n0_; clear n0_; (try clear hb); (try clear hb2); (try clear hk); (try clear hi)) | (go_at_call 15; (with_reducible refine (backfillref01_Cmp.calls kj6 t162 t163 t164 t165 t166 _ A40.out).mono ?_); rintro e w49 ⟨rfl, hb⟩; have n0_ := Aside0.mk (below_step bA hb); clear HB; have HB := n0_; clear n0_; (try clear hb); (try clear hb2); (try clear hk); (try clear hi)))
                        go_ret
                        exact ⟨by first | rfl | (simp [errW_none, errW_some] <;> rfl) | (simp only [← hji24, ← hji26]; first | rfl | (simp [errW_none, errW_some] <;> rfl)) | (simp [*, errW_none, errW_some] <;> rfl), bA⟩
                      · rw [if_neg c37] at H
                        have c37b0 : decide (t161 ≤ 0) = false := decide_eq_false c37
                        clear c37
                        obtain rfl := Option.some.inj H
                        go_wp2_with (first | ((with_reducible refine gate_callee (f := 19) rfl ?_); refine goesL_ (some 41) rfl rfl Tryd.func19 (by kernel_rfl) rfl #[.int .u64 (IntKind.u64.wrap ((ji24) * 4294967296))] rfl (by (try simp only [List.map_toArray, List.map_cons, List.map_nil]); first | done | (simp only [hji24]; rfl) | rfl | (simp only [List.length_drop, List.length_take]; rfl)) ?_; (with_reducible refine (ladder_Half.calls (IntKind.u64.wrap ((ji24) * 4294967296)) t152 _ ?side1 A23.out).mono ?_); (case side1 => exact laid_below hL bA); rintro e w50 ⟨rfl, hb⟩; refine ⟨_, rfl, ?_⟩; have n0_ := Aside0.mk (below_step bA hb); clear HB; have HB := n0_; clear n0_; (try clear hb); (try clear hb2); (try clear hk); (try clear hi)) | ((with_reducible refine gate_callee (f := 17) rfl ?_); refine goesL_ (some 50) rfl rfl Tryd.func17 (by kernel_rfl) rfl #[.int .u64 x0_3] rfl aA ?_; (with_reducible refine (ladder_Bounds.calls x0_3 t153 t154 _ ?side1 A30.out).mono ?_); (case side1 => exact laid_below hL bA); rintro e w51 ⟨rfl, hb⟩; refine ⟨_, rfl, ?_⟩; have n0_ := Aside0.mk (below_step bA hb); clear HB; have HB := n0_; clear n0_; (try clear hb); (try clear hb2); (try clear hk); (try clear hi)) | ((with_reducible refine gate_callee (f := 17) rfl ?_); refine goesL_ (some 56) rfl rfl Tryd.func17 (by kernel_rfl) rfl #[.int .u64 (IntKind.u64.wrap (2 * x0_3))] rfl aA ?_; (with_reducible refine (ladder_Bounds.calls (IntKind.u64.wrap (2 * x0_3)) t155 t156 _ ?side1 A31.out).mono ?_); (case side1 => exact laid_below hL bA); rintro e w52 ⟨rfl, hb⟩; refine ⟨_, rfl, ?_⟩; have n0_ := Aside0.mk (below_step bA hb); clear HB; have HB := n0_; clear n0_; (try clear hb); (try clear hb2); (try clear hk); (try clear hi)) | (go_at_call 16; (with_reducible refine (backfillref01_Mul.calls t153 t153 t157 t158 _ A34.out).mono ?_); rintro e w53 ⟨rfl, hb⟩; have n0_ := Aside0.mk (below_step bA hb); clear HB; have HB := n0_; clear n0_; (try clear hb); (try clear hb2); (try clear hk); (try clear hi)) | (go_at_call 16; (with_reducible refine (backfillref01_Mul.calls 9223372036854775808 t156 t159 t160 _ A35.out).mono ?_); rintro e w54 ⟨rfl, hb⟩; have n0_ := Aside0.mk (below_step bA hb); clear HB; have HB := n0_; clear n0_; (try clear hb); (try clear hb2); (try clear hk); (try clear hi)) | (go_at_call 15; (with_reducible refine (backfillref01_Cmp.calls kj6 t157 t158 t159 t160 t161 _ A36.out).mono ?_); rintro e w55 ⟨rfl, hb⟩; have n0_ := Aside0.mk (below_step bA hb); clear HB; have HB := n0_; clear n0_; (try clear hb); (try clear hb2); (try clear hk); (try clear hi)))
                        go_ret
                        exact ⟨by first | rfl | (simp [errW_none, errW_some] <;> rfl) | (simp only [← hji24, ← hji26]; first | rfl | (simp [errW_none, errW_some] <;> rfl)) | (simp [*, errW_none, errW_some] <;> rfl), bA⟩
                    · rw [if_neg c33] at H
                      have c33b0 : decide (t153 ≤ t154) = false := decide_eq_false c33
                      clear c33
                      obtain rfl := Option.some.inj H
                      go_wp2_with (first | ((with_reducible refine gate_callee (f := 19) rfl ?_); refine goesL_ (some 41) rfl rfl Tryd.func19 (by kernel_rfl) rfl #[.int .u64 (IntKind.u64.wrap ((ji24) * 4294967296))] rfl (by (try simp only [List.map_toArray, List.map_cons, List.map_nil]); first | done | (simp only [hji24]; rfl) | rfl | (simp only [List.length_drop, List.length_take]; rfl)) ?_; (with_reducible refine (ladder_Half.calls (IntKind.u64.wrap ((ji24) * 4294967296)) t152 _ ?side1 A23.out).mono ?_); (case side1 => exact laid_below hL bA); rintro e w56 ⟨rfl, hb⟩; refine ⟨_, rfl, ?_⟩; have n0_ := Aside0.mk (below_step bA hb); clear HB; have HB := n0_; clear n0_; (try clear hb); (try clear hb2); (try clear hk); (try clear hi)) | ((with_reducible refine gate_callee (f := 17) rfl ?_); refine goesL_ (some 50) rfl rfl Tryd.func17 (by kernel_rfl) rfl #[.int .u64 x0_3] rfl aA ?_; (with_reducible refine (ladder_Bounds.calls x0_3 t153 t154 _ ?side1 A30.out).mono ?_); (case side1 => exact laid_below hL bA); rintro e w57 ⟨rfl, hb⟩; refine ⟨_, rfl, ?_⟩; have n0_ := Aside0.mk (below_step bA hb); clear HB; have HB := n0_; clear n0_; (try clear hb); (try clear hb2); (try clear hk); (try clear hi)) | ((with_reducible refine gate_callee (f := 17) rfl ?_); refine goesL_ (some 56) rfl rfl Tryd.func17 (by kernel_rfl) rfl #[.int .u64 (IntKind.u64.wrap (2 * x0_3))] rfl aA ?_; (with_reducible refine (ladder_Bounds.calls (IntKind.u64.wrap (2 * x0_3)) t155 t156 _ ?side1 A31.out).mono ?_); (case side1 => exact laid_below hL bA); rintro e w58 ⟨rfl, hb⟩; refine ⟨_, rfl, ?_⟩; have n0_ := Aside0.mk (below_step bA hb); clear HB; have HB := n0_; clear n0_; (try clear hb); (try clear hb2); (try clear hk); (try clear hi)))
                      go_ret
                      exact ⟨by first | rfl | (simp [errW_none, errW_some] <;> rfl) | (simp only [← hji24, ← hji26]; first | rfl | (simp [errW_none, errW_some] <;> rfl)) | (simp [*, errW_none, errW_some] <;> rfl), bA⟩
                  · replace c32 := Bool.eq_false_iff.mpr c32
                    subst c32
                    have H1 : (some false) = some r := by rw [if_neg (show ¬ (false = true) by decide)] at H; exact H
                    clear H
                    have H := H1
                    clear H1
                    obtain rfl := Option.some.inj H
                    go_wp2_with (first | ((with_reducible refine gate_callee (f := 19) rfl ?_); refine goesL_ (some 41) rfl rfl Tryd.func19 (by kernel_rfl) rfl #[.int .u64 (IntKind.u64.wrap ((ji24) * 4294967296))] rfl (by (try simp only [List.map_toArray, List.map_cons, List.map_nil]); first | done | (simp only [hji24]; rfl) | rfl | (simp only [List.length_drop, List.length_take]; rfl)) ?_; (with_reducible refine (ladder_Half.calls (IntKind.u64.wrap ((ji24) * 4294967296)) t152 _ ?side1 A23.out).mono ?_); (case side1 => exact laid_below hL bA); rintro e w59 ⟨rfl, hb⟩; refine ⟨_, rfl, ?_⟩; have n0_ := Aside0.mk (below_step bA hb); clear HB; have HB := n0_; clear n0_; (try clear hb); (try clear hb2); (try clear hk); (try clear hi)) | ((with_reducible refine gate_callee (f := 17) rfl ?_); refine goesL_ (some 50) rfl rfl Tryd.func17 (by kernel_rfl) rfl #[.int .u64 x0_3] rfl aA ?_; (with_reducible refine (ladder_Bounds.calls x0_3 t153 t154 _ ?side1 A30.out).mono ?_); (case side1 => exact laid_below hL bA); rintro e w60 ⟨rfl, hb⟩; refine ⟨_, rfl, ?_⟩; have n0_ := Aside0.mk (below_step bA hb); clear HB; have HB := n0_; clear n0_; (try clear hb); (try clear hb2); (try clear hk); (try clear hi)) | ((with_reducible refine gate_callee (f := 17) rfl ?_); refine goesL_ (some 56) rfl rfl Tryd.func17 (by kernel_rfl) rfl #[.int .u64 (IntKind.u64.wrap (2 * x0_3))] rfl aA ?_; (with_reducible refine (ladder_Bounds.calls (IntKind.u64.wrap (2 * x0_3)) t155 t156 _ ?side1 A31.out).mono ?_); (case side1 => exact laid_below hL bA); rintro e w61 ⟨rfl, hb⟩; refine ⟨_, rfl, ?_⟩; have n0_ := Aside0.mk (below_step bA hb); clear HB; have HB := n0_; clear n0_; (try clear hb); (try clear hb2); (try clear hk); (try clear hi)))
                    go_ret
                    exact ⟨by first | rfl | (simp [errW_none, errW_some] <;> rfl) | (simp only [← hji24, ← hji26]; first | rfl | (simp [errW_none, errW_some] <;> rfl)) | (simp [*, errW_none, errW_some] <;> rfl), bA⟩
              · rw [if_neg c27] at H
                have c27b0 : (t152 == (ji26)) = false := beq_eq_false_iff_ne.mpr c27
                have c27b1 : (t152 != (ji26)) = true := bne_iff_ne.mpr c27
                obtain rfl := Option.some.inj H
                go_wp2_with (first | ((with_reducible refine gate_callee (f := 19) rfl ?_); refine goesL_ (some 41) rfl rfl Tryd.func19 (by kernel_rfl) rfl #[.int .u64 (IntKind.u64.wrap ((ji24) * 4294967296))] rfl (by (try simp only [List.map_toArray, List.map_cons, List.map_nil]); first | done | (simp only [hji24]; rfl) | rfl | (simp only [List.length_drop, List.length_take]; rfl)) ?_; (with_reducible refine (ladder_Half.calls (IntKind.u64.wrap ((ji24) * 4294967296)) t152 _ ?side1 A23.out).mono ?_); (case side1 => exact laid_below hL bA); rintro e w62 ⟨rfl, hb⟩; refine ⟨_, rfl, ?_⟩; have n0_ := Aside0.mk (below_step bA hb); clear HB; have HB := n0_; clear n0_; (try clear hb); (try clear hb2); (try clear hk); (try clear hi)))
                go_ret
                exact ⟨by first | rfl | (simp [errW_none, errW_some] <;> rfl) | (simp only [← hji24, ← hji26]; first | rfl | (simp [errW_none, errW_some] <;> rfl)) | (simp [*, errW_none, errW_some] <;> rfl), bA⟩
            · rw [if_neg c25] at H
              exact absurd H (by simp)

/-- THE ONE PURE STATEMENT of backfilllaw07_LadderFalls: yours. -/
def backfilllaw07_LadderFalls.Pure : Prop := ∀ (a0 : Int) (a1 : Int), (Lit.int .u64 a0).wf = true → (Lit.int .u64 a1).wf = true → ∃ k, backfilllaw07_LadderFalls.f k a0 a1 = some true
theorem backfilllaw07_LadderFalls.walk (P : backfilllaw07_LadderFalls.Pure) (a0 : Int) (a1 : Int) (w : World) (hL : LaidW w) (w0 : (Lit.int .u64 a0).wf = true) (w1 : (Lit.int .u64 a1).wf = true) :
    Calls Tryd.prog 5 #[.int .u64 a0, .int .u64 a1] w fun e w' => e = .returned (.bool true) ∧ Below w.heap.size w w' := by
  obtain ⟨k, h⟩ := P a0 a1 w0 w1
  refine (backfilllaw07_LadderFalls.calls k a0 a1 true w hL h).mono ?_
  rintro e w' ⟨rfl, hd⟩
  exact ⟨rfl, hd⟩

/-! ### backfilllaw07_normal: function 21 -/
def backfilllaw07_normal.l0 : Nat → Int → Int → Int → Option (Int × Int)
  | 0, _, _, _ => none
  | k + 1, x0, x3, x4 => if x4 < 64 then (if (x0 / 9223372036854775808) = 0 then (backfilllaw07_normal.l0 k (IntKind.u64.wrap (x0 * 2)) (wrap64 (x3 - 1)) (wrap64 (x4 + 1))) else (some (x0, x3))) else (some (x0, x3))
def backfilllaw07_normal.f (k : Nat) (a0 : Int) : Option (Int × Int) := backfilllaw07_normal.l0 k a0 (-63) 0
theorem backfilllaw07_normal.mono_l : ∀ k, (∀ y0 y1 y2, LeO (backfilllaw07_normal.l0 k y0 y1 y2) (backfilllaw07_normal.l0 (k + 1) y0 y1 y2))
  | 0 => fun _ _ _ r h => by simp [backfilllaw07_normal.l0] at h
  | k + 1 => by
    have ih0 := backfilllaw07_normal.mono_l k
    · intro y0 y1 y2
      unfold backfilllaw07_normal.l0
      repeat' first
      | (with_reducible exact ih0 _ _ _)
      | (with_reducible exact LeO.refl _)
      | (with_reducible exact LeO.none _)
      | (with_reducible refine LeO.ite ?_ ?_)
      | (with_reducible refine LeO.bind ?_ (fun _ => ?_))
      | exact ih0 _ _ _
      | exact LeO.none _
      | refine LeO.ite ?_ ?_
      | refine LeO.bind ?_ (fun _ => ?_)
theorem backfilllaw07_normal.mono : ∀ a0 k, LeO (backfilllaw07_normal.f k a0) (backfilllaw07_normal.f (k + 1) a0) := by
  intro a0 k
  have ih0 := backfilllaw07_normal.mono_l k
  unfold backfilllaw07_normal.f
  repeat' first
      | (with_reducible exact ih0 _ _ _)
      | (with_reducible exact LeO.refl _)
      | (with_reducible exact LeO.none _)
      | (with_reducible refine LeO.ite ?_ ?_)
      | (with_reducible refine LeO.bind ?_ (fun _ => ?_))
      | exact ih0 _ _ _
      | exact LeO.none _
      | refine LeO.ite ?_ ?_
      | refine LeO.bind ?_ (fun _ => ?_)
set_option maxHeartbeats 8000000 in
set_option maxRecDepth 100000 in
theorem backfilllaw07_normal.calls (k : Nat) (a0 : Int) (r1 : Int) (r2 : Int) (w : World) (h : backfilllaw07_normal.f k a0 = some (r1, r2)) :
    Calls Tryd.prog 21 #[.int .u64 a0] w fun e w' => e = .returned (.agg #[.int .u64 r1, .int .i64 r2]) ∧ Below w.heap.size w w' := by
  have hu37 := Tryd.underlying37
  have HB := Aside0.mk (Below.refl w.heap.size w)
  have H : (backfilllaw07_normal.l0 k a0 (-63) 0) = some (r1, r2) := h
  clear h
  have H' := Aside0.mk H
  clear H
  go_enter Tryd.func21, Tryd.ntmps21
  go_wp2_with (first | ((with_reducible refine gate_dst (N := 2) rfl ?_); refine box_event ?hg (N := 2) ?hd (cs := #[.int .u64 0, .int .i64 0]) (t := 37) ?hr ?_; (case hd => rfl); (case hg => rfl); (case hr => first | (go_simp; done) | (go_simp; rfl)); intro gb167 hg w2 hbox hb; have n0_ := Aside0.mk (below_step bA hb); have n1_ := Aside0.mk (hbox); have n2_ := Aside0.mk ((by rw [hg]; exact (below_size bA) : w.heap.size ≤ gb167)); have n3_ := Aside0.mk ((by rw [hg]; exact (below_size bA) : w.heap.size ≤ gb167)); clear HB; have HB := n0_; have BK167 := n1_; have GW167 := n2_; have GE167 := n3_; clear n0_ n1_ n2_ n3_; clear hb hbox hg))
  go_loopg [0, 3, 4] k (fun kq v0 v3 v4 w' => ∃ (x0_1 : Int) (x3_1 : Int) (x4_1 : Int), v0 = .int .u64 x0_1 ∧ v3 = .int .i64 x3_1 ∧ v4 = .int .i64 x4_1 ∧ Aside0 (backfilllaw07_normal.l0 kq x0_1 x3_1 x4_1 = some (r1, r2)) ∧ Aside0 (kq ≤ k) ∧ Aside0 (w'.heap[gb167]? = some (.cells #[.int .u64 0, .int .i64 0] 37 (0, 0))) ∧ Aside0 (Below w.heap.size w w'))
  case atStart => exact ⟨(a0), ((-63)), (0), (by first | rfl | (simp; done) | (simp [*]; done)), (by first | rfl | (simp; done) | (simp [*]; done)), (by first | rfl | (simp; done) | (simp [*]; done)), H', ⟨Nat.le_refl _⟩, ⟨by (with_reducible repeat (first | refine blk_drewN ?_ _ | refine blk_drew ?_ | refine blk_alloc ?_ _)); exact BK167.out⟩, ⟨by repeat (first | (with_reducible first | exact HB.out | apply below_alloc | apply pw_below_drewN | apply below_drew1 | refine below_set ?_ GE167.out) | exact HB.out)⟩⟩
  case round =>
    clear H'
    try clear c2
    try clear p2
    obtain ⟨x0_1, x3_1, x4_1, rfl, rfl, rfl, HA, HK1, BK167, HB⟩ := hrel
    cases gk with
    | zero => exact absurd HA.out (by simp [backfilllaw07_normal.l0])
    | succ k1 =>
      have H := HA.out
      clear HA
      simp only [backfilllaw07_normal.l0] at H
      by_cases c3 : x4_1 < 64
      · rw [if_pos c3] at H
        have c3b0 : decide (x4_1 < 64) = true := decide_eq_true c3
        clear c3
        by_cases c4 : (x0_1 / 9223372036854775808) = 0
        · rw [if_pos c4] at H
          have c4b0 : ((x0_1 / 9223372036854775808) == 0) = true := beq_iff_eq.mpr c4
          have c4b1 : ((x0_1 / 9223372036854775808) != 0) = false := bne_eq_false_iff_eq.mpr c4
          clear c4
          have H' := Aside0.mk H
          clear H
          go_wp2
          go_roundg k1
          case measure => have := HK1.out; omega
          case rel => exact ⟨(IntKind.u64.wrap (x0_1 * 2)), (wrap64 (x3_1 - 1)), (wrap64 (x4_1 + 1)), (by first | rfl | (simp; done) | (simp [*]; done)), (by first | rfl | (simp; done) | (simp [*]; done)), (by first | rfl | (simp; done) | (simp [*]; done)), H', ⟨by have := HK1.out; omega⟩, ⟨by (with_reducible repeat (first | refine blk_drewN ?_ _ | refine blk_drew ?_ | refine blk_alloc ?_ _)); exact BK167.out⟩, ⟨by repeat (first | (with_reducible first | exact HB.out | apply below_alloc | apply pw_below_drewN | apply below_drew1 | refine below_set ?_ GE167.out) | exact HB.out)⟩⟩
        · rw [if_neg c4] at H
          have c4b0 : ((x0_1 / 9223372036854775808) == 0) = false := beq_eq_false_iff_ne.mpr c4
          have c4b1 : ((x0_1 / 9223372036854775808) != 0) = true := bne_iff_ne.mpr c4
          simp only [Option.some.injEq, Prod.mk.injEq] at H
          obtain ⟨rfl, rfl⟩ := H
          have hcz5_0 : wr.cell? ⟨gb167, 0, none⟩ = some (.int .u64 0) := (blk_cell BK167.out 0).trans rfl
          have hcz5_1 : wr.cell? ⟨gb167, 1, none⟩ = some (.int .i64 0) := (blk_cell BK167.out 1).trans rfl
          have hfz5_0 := blk_frozen BK167.out 0
          have hfz5_1 := blk_frozen BK167.out 1
          go_wp2
          refine bodyPost_ret (results_cell_row rfl _ _ gb167 37 #[.int .u64 x0_1, .int .i64 x3_1] (0, 0) _ rfl (by (with_reducible repeat (first | refine blk_drewN ?_ _ | refine blk_drew ?_ | refine blk_alloc ?_ _)); refine blk_put (cs := #[.int .u64 x0_1, .int .i64 0]) ?_ 1 _ rfl; (with_reducible repeat (first | refine blk_drewN ?_ _ | refine blk_drew ?_ | refine blk_alloc ?_ _)); refine blk_put (cs := #[.int .u64 0, .int .i64 0]) ?_ 0 _ rfl; (with_reducible repeat (first | refine blk_drewN ?_ _ | refine blk_drew ?_ | refine blk_alloc ?_ _)); exact BK167.out) Tryd.underlying37 rfl (by kernel_rfl)) rfl ?_
          exact ⟨by first | rfl | (simp [errW_none, errW_some] <;> rfl) | (simp [*, errW_none, errW_some] <;> rfl), by repeat (first | (with_reducible first | exact HB.out | apply below_alloc | apply pw_below_drewN | apply below_drew1 | refine below_set ?_ GE167.out) | exact HB.out)⟩
      · rw [if_neg c3] at H
        have c3b0 : decide (x4_1 < 64) = false := decide_eq_false c3
        clear c3
        simp only [Option.some.injEq, Prod.mk.injEq] at H
        obtain ⟨rfl, rfl⟩ := H
        have hcz6_0 : wr.cell? ⟨gb167, 0, none⟩ = some (.int .u64 0) := (blk_cell BK167.out 0).trans rfl
        have hcz6_1 : wr.cell? ⟨gb167, 1, none⟩ = some (.int .i64 0) := (blk_cell BK167.out 1).trans rfl
        have hfz6_0 := blk_frozen BK167.out 0
        have hfz6_1 := blk_frozen BK167.out 1
        go_wp2
        refine bodyPost_ret (results_cell_row rfl _ _ gb167 37 #[.int .u64 x0_1, .int .i64 x3_1] (0, 0) _ rfl (by (with_reducible repeat (first | refine blk_drewN ?_ _ | refine blk_drew ?_ | refine blk_alloc ?_ _)); refine blk_put (cs := #[.int .u64 x0_1, .int .i64 0]) ?_ 1 _ rfl; (with_reducible repeat (first | refine blk_drewN ?_ _ | refine blk_drew ?_ | refine blk_alloc ?_ _)); refine blk_put (cs := #[.int .u64 0, .int .i64 0]) ?_ 0 _ rfl; (with_reducible repeat (first | refine blk_drewN ?_ _ | refine blk_drew ?_ | refine blk_alloc ?_ _)); exact BK167.out) Tryd.underlying37 rfl (by kernel_rfl)) rfl ?_
        exact ⟨by first | rfl | (simp [errW_none, errW_some] <;> rfl) | (simp [*, errW_none, errW_some] <;> rfl), by repeat (first | (with_reducible first | exact HB.out | apply below_alloc | apply pw_below_drewN | apply below_drew1 | refine below_set ?_ GE167.out) | exact HB.out)⟩

end Go.Proofs.YtmgmggkebmgafaaDoor.GL
