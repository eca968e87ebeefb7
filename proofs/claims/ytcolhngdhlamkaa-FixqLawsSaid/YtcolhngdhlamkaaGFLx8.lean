-- Laid by a program of this session (wip/tools/pr.py): contracts and pure functions; Lean checks it.
import Derived.Test.YtcolhngdhlamkaaGFLx0
import Derived.Test.YtcolhngdhlamkaaGFLx1
import Derived.Test.YtcolhngdhlamkaaGFLx3
import Derived.Test.YtcolhngdhlamkaaGFLx4
import Derived.Test.YtcolhngdhlamkaaGFLx6
import Derived.Test.YtcolhngdhlamkaaGFLx7
namespace Go.Proofs.Ytcolhngdhlamkaa.GFL
open Go.RowKit Go.Proofs.YtcolhngdhlamkaaW.PrintWords Go.Proofs.YtcolhngdhlamkaaW.PrintLast Go.Proofs.YtcolhngdhlamkaaW.PrintMore
attribute [local go_sem] max2_int min2_int max_two min_two max_three min_three max_four min_four   -- for this text's walks alone
set_option linter.unusedVariables false
set_option linter.unusedSimpArgs false

attribute [local go_sem high] eqA63
/-! ### backfilllaw04_FixqLaws: function 10 -/
mutual
def backfilllaw04_FixqLaws.j0 : Nat → Int → Int → Int → Bool → Option (Bool)
 | 0, _, _, _, _ => none
 | k + 1, x0, x1, x2, x7 => (fixq_MulDown.f k x0 x1).bind fun bt229 => ((backfilllaw04_of.f bt229.1 bt229.2).bind fun bt231 => ((fixq_MulDown.f k x2 x1).bind fun bt234 => ((backfilllaw04_of.f bt234.1 bt234.2).bind fun bt236 => ((fixq_DivDown.f k x0 x1).bind fun bt239 => ((backfilllaw04_of.f bt239.1 bt239.2).bind fun bt241 => ((fixq_DivDown.f k x2 x1).bind fun bt244 => ((backfilllaw04_of.f bt244.1 bt244.2).bind fun bt246 => ((fixq_MulUp.f k x0 x1).bind fun bt249 => ((backfilllaw04_of.f bt249.1 bt249.2).bind fun bt251 => ((backfilllaw04_beside.f bt231.1 bt231.2 bt251.1 bt251.2).bind fun t253 => (if t253 = true then ((fixq_DivUp.f k x0 x1).bind fun bt254 => ((backfilllaw04_of.f bt254.1 bt254.2).bind fun bt256 => ((backfilllaw04_beside.f bt241.1 bt241.2 bt256.1 bt256.2).bind fun t258 => (backfilllaw04_FixqLaws.j1 k x0 x1 x2 x7 t258 bt231.1 bt231.2 bt236.1 bt236.2 bt241.1 bt241.2 bt246.1 bt246.2)))) else (backfilllaw04_FixqLaws.j1 k x0 x1 x2 x7 false bt231.1 bt231.2 bt236.1 bt236.2 bt241.1 bt241.2 bt246.1 bt246.2))))))))))))
def backfilllaw04_FixqLaws.j1 : Nat → Int → Int → Int → Bool → Bool → Int → Bool → Int → Bool → Int → Bool → Int → Bool → Option (Bool)
 | 0, _, _, _, _, _, _, _, _, _, _, _, _, _ => none
 | k + 1, x0, x1, x2, x7, x13, x234000, x234001, x239000, x239001, x244000, x244001, x249000, x249001 => if x234000 ≤ x239000 then (if x244000 ≤ x249000 then ((fixq_Part.f x0 x1).bind fun t259 => ((fixq_Part.f x2 x1).bind fun t260 => (if t259 ≤ t260 then ((fixq_Part.f x1 x0).bind fun t261 => ((fixq_Part.f x1 x2).bind fun t262 => (backfilllaw04_FixqLaws.j2 k x0 x1 x7 x13 (decide (t261 ≤ t262)) x234000 x234001))) else (backfilllaw04_FixqLaws.j2 k x0 x1 x7 x13 false x234000 x234001)))) else (backfilllaw04_FixqLaws.j2 k x0 x1 x7 x13 false x234000 x234001)) else (backfilllaw04_FixqLaws.j2 k x0 x1 x7 x13 false x234000 x234001)
def backfilllaw04_FixqLaws.j2 : Nat → Int → Int → Bool → Bool → Bool → Int → Bool → Option (Bool)
 | 0, _, _, _, _, _, _, _ => none
 | k + 1, x0, x1, x7, x13, x14, x234000, x234001 => (fixq_Add.f x0 x1).bind fun bt263 => ((backfilllaw04_of.f bt263.1 bt263.2).bind fun bt265 => ((fixq_Sub.f bt265.1 x1).bind fun bt268 => ((backfilllaw04_of.f bt268.1 bt268.2).bind fun bt270 => ((fixq_MulUp.f k x234000 4294967296).bind fun bt273 => ((backfilllaw04_of.f bt273.1 bt273.2).bind fun bt275 => (if x7 = true then (if x13 = true then (if x14 = true then (if (bt275.1 == x234000 && (bt275.2)) = true then (if bt265.2 = true then (if (bt270.1 == x0 && (bt270.2)) = true then ((fixq_Part.f x0 x1).bind fun t277 => (if t277 ≤ x0 then ((fixq_Part.f x0 9223372036854775808).bind fun t278 => (if t278 = x0 then ((fixq_DivDown.f k x0 4294967296).bind fun bt279 => ((backfilllaw04_of.f bt279.1 bt279.2).bind fun bt281 => (some (bt281.1 == x0 && (bt281.2))))) else (none))) else (none))) else (none)) else ((fixq_Part.f x0 x1).bind fun t283 => (if t283 ≤ x0 then ((fixq_Part.f x0 9223372036854775808).bind fun t284 => (if t284 = x0 then ((fixq_DivDown.f k x0 4294967296).bind fun bt285 => ((backfilllaw04_of.f bt285.1 bt285.2).bind fun bt287 => (some (bt287.1 == x0 && (bt287.2))))) else (none))) else (none)))) else (none)) else (none)) else (none)) else (none)))))))
end
def backfilllaw04_FixqLaws.f (k : Nat) (a0 : Int) (a1 : Int) (a2 : Int) : Option (Bool) := (backfilllaw04_shown.f k).bind fun t228 => (if a0 > a2 then (backfilllaw04_FixqLaws.j0 k a2 a1 a0 t228) else (backfilllaw04_FixqLaws.j0 k a0 a1 a2 t228))
theorem backfilllaw04_FixqLaws.mono_l : ∀ k, (∀ y0 y1 y2 y3, LeO (backfilllaw04_FixqLaws.j0 k y0 y1 y2 y3) (backfilllaw04_FixqLaws.j0 (k + 1) y0 y1 y2 y3)) ∧ (∀ y0 y1 y2 y3 y4 y5 y6 y7 y8 y9 y10 y11 y12, LeO (backfilllaw04_FixqLaws.j1 k y0 y1 y2 y3 y4 y5 y6 y7 y8 y9 y10 y11 y12) (backfilllaw04_FixqLaws.j1 (k + 1) y0 y1 y2 y3 y4 y5 y6 y7 y8 y9 y10 y11 y12)) ∧ (∀ y0 y1 y2 y3 y4 y5 y6, LeO (backfilllaw04_FixqLaws.j2 k y0 y1 y2 y3 y4 y5 y6) (backfilllaw04_FixqLaws.j2 (k + 1) y0 y1 y2 y3 y4 y5 y6))
 | 0 => ⟨fun _ _ _ _ r h => by simp [backfilllaw04_FixqLaws.j0] at h, fun _ _ _ _ _ _ _ _ _ _ _ _ _ r h => by simp [backfilllaw04_FixqLaws.j1] at h, fun _ _ _ _ _ _ _ r h => by simp [backfilllaw04_FixqLaws.j2] at h⟩
 | k + 1 => by
  obtain ⟨ih0, ih1, ih2⟩ := backfilllaw04_FixqLaws.mono_l k
  refine ⟨?_, ?_, ?_⟩
  ·intro y0 y1 y2 y3
   unfold backfilllaw04_FixqLaws.j0
   repeat' first
   | (with_reducible exact ih0 _ _ _ _)
   | (with_reducible exact ih1 _ _ _ _ _ _ _ _ _ _ _ _ _)
   | (with_reducible exact ih2 _ _ _ _ _ _ _)
   | (with_reducible exact backfilllaw04_shown.mono _)
   | (with_reducible exact fixq_DivDown.mono _ _ _)
   | (with_reducible exact fixq_DivUp.mono _ _ _)
   | (with_reducible exact fixq_MulDown.mono _ _ _)
   | (with_reducible exact fixq_MulUp.mono _ _ _)
   | (with_reducible exact LeO.refl _)
   | (with_reducible exact LeO.none _)
   | (with_reducible refine LeO.ite ?_ ?_)
   | (with_reducible refine LeO.bind ?_ (fun _ => ?_))
   | exact ih0 _ _ _ _
   | exact ih1 _ _ _ _ _ _ _ _ _ _ _ _ _
   | exact ih2 _ _ _ _ _ _ _
   | exact backfilllaw04_shown.mono _
   | exact fixq_DivDown.mono _ _ _
   | exact fixq_DivUp.mono _ _ _
   | exact fixq_MulDown.mono _ _ _
   | exact fixq_MulUp.mono _ _ _
   | exact LeO.none _
   | refine LeO.ite ?_ ?_
   | refine LeO.bind ?_ (fun _ => ?_)
  ·intro y0 y1 y2 y3 y4 y5 y6 y7 y8 y9 y10 y11 y12
   unfold backfilllaw04_FixqLaws.j1
   repeat' first
   | (with_reducible exact ih0 _ _ _ _)
   | (with_reducible exact ih1 _ _ _ _ _ _ _ _ _ _ _ _ _)
   | (with_reducible exact ih2 _ _ _ _ _ _ _)
   | (with_reducible exact backfilllaw04_shown.mono _)
   | (with_reducible exact fixq_DivDown.mono _ _ _)
   | (with_reducible exact fixq_DivUp.mono _ _ _)
   | (with_reducible exact fixq_MulDown.mono _ _ _)
   | (with_reducible exact fixq_MulUp.mono _ _ _)
   | (with_reducible exact LeO.refl _)
   | (with_reducible exact LeO.none _)
   | (with_reducible refine LeO.ite ?_ ?_)
   | (with_reducible refine LeO.bind ?_ (fun _ => ?_))
   | exact ih0 _ _ _ _
   | exact ih1 _ _ _ _ _ _ _ _ _ _ _ _ _
   | exact ih2 _ _ _ _ _ _ _
   | exact backfilllaw04_shown.mono _
   | exact fixq_DivDown.mono _ _ _
   | exact fixq_DivUp.mono _ _ _
   | exact fixq_MulDown.mono _ _ _
   | exact fixq_MulUp.mono _ _ _
   | exact LeO.none _
   | refine LeO.ite ?_ ?_
   | refine LeO.bind ?_ (fun _ => ?_)
  ·intro y0 y1 y2 y3 y4 y5 y6
   unfold backfilllaw04_FixqLaws.j2
   repeat' first
   | (with_reducible exact ih0 _ _ _ _)
   | (with_reducible exact ih1 _ _ _ _ _ _ _ _ _ _ _ _ _)
   | (with_reducible exact ih2 _ _ _ _ _ _ _)
   | (with_reducible exact backfilllaw04_shown.mono _)
   | (with_reducible exact fixq_DivDown.mono _ _ _)
   | (with_reducible exact fixq_DivUp.mono _ _ _)
   | (with_reducible exact fixq_MulDown.mono _ _ _)
   | (with_reducible exact fixq_MulUp.mono _ _ _)
   | (with_reducible exact LeO.refl _)
   | (with_reducible exact LeO.none _)
   | (with_reducible refine LeO.ite ?_ ?_)
   | (with_reducible refine LeO.bind ?_ (fun _ => ?_))
   | exact ih0 _ _ _ _
   | exact ih1 _ _ _ _ _ _ _ _ _ _ _ _ _
   | exact ih2 _ _ _ _ _ _ _
   | exact backfilllaw04_shown.mono _
   | exact fixq_DivDown.mono _ _ _
   | exact fixq_DivUp.mono _ _ _
   | exact fixq_MulDown.mono _ _ _
   | exact fixq_MulUp.mono _ _ _
   | exact LeO.none _
   | refine LeO.ite ?_ ?_
   | refine LeO.bind ?_ (fun _ => ?_)
theorem backfilllaw04_FixqLaws.mono : ∀ a0 a1 a2 k, LeO (backfilllaw04_FixqLaws.f k a0 a1 a2) (backfilllaw04_FixqLaws.f (k + 1) a0 a1 a2) := by
 intro a0 a1 a2 k
 obtain ⟨ih0, ih1, ih2⟩ := backfilllaw04_FixqLaws.mono_l k
 unfold backfilllaw04_FixqLaws.f
 repeat' first
   | (with_reducible exact ih0 _ _ _ _)
   | (with_reducible exact ih1 _ _ _ _ _ _ _ _ _ _ _ _ _)
   | (with_reducible exact ih2 _ _ _ _ _ _ _)
   | (with_reducible exact backfilllaw04_shown.mono _)
   | (with_reducible exact fixq_DivDown.mono _ _ _)
   | (with_reducible exact fixq_DivUp.mono _ _ _)
   | (with_reducible exact fixq_MulDown.mono _ _ _)
   | (with_reducible exact fixq_MulUp.mono _ _ _)
   | (with_reducible exact LeO.refl _)
   | (with_reducible exact LeO.none _)
   | (with_reducible refine LeO.ite ?_ ?_)
   | (with_reducible refine LeO.bind ?_ (fun _ => ?_))
   | exact ih0 _ _ _ _
   | exact ih1 _ _ _ _ _ _ _ _ _ _ _ _ _
   | exact ih2 _ _ _ _ _ _ _
   | exact backfilllaw04_shown.mono _
   | exact fixq_DivDown.mono _ _ _
   | exact fixq_DivUp.mono _ _ _
   | exact fixq_MulDown.mono _ _ _
   | exact fixq_MulUp.mono _ _ _
   | exact LeO.none _
   | refine LeO.ite ?_ ?_
   | refine LeO.bind ?_ (fun _ => ?_)
def backfilllaw04_FixqLaws.T10 : Bool × List (List Nat × List Nat) := (true, [([], []), ([], []), ([], []), ([1, 2], [1, 2]), ([3], [3]), ([3], [3]), ([4, 5, 3], [4, 5]), ([0, 6, 6], [0, 6]), ([7, 7], [7]), ([8], [8]), ([8], [8]), ([8], [8]), ([10, 11, 8, 8], [8, 10, 11]), ([12, 8], [8, 12]), ([12, 8], [8, 12]), ([13, 14, 12, 8], [8, 13, 14]), ([9, 15, 15, 8], [8, 9, 15]), ([8, 16], [8, 16]), ([17, 16, 0, 1, 2, 3, 4, 5, 6, 7, 8, 9, 10, 11, 12, 13, 14, 15, 16, 17], [17])])
def backfilllaw04_FixqLaws.B10 : List Nat := [0, 0, 0, 6, 14, 14, 62, 127, 255, 511, 511, 511, 3583, 7679, 7679, 32255, 65535, 131071, 262143]
theorem backfilllaw04_FixqLaws.tab10 : rtab .any (opsOf Try.f10 10) = backfilllaw04_FixqLaws.T10 := by kernel_rfl
theorem backfilllaw04_FixqLaws.bits10 : waitsOk backfilllaw04_FixqLaws.T10.2 backfilllaw04_FixqLaws.B10 = true := by kernel_rfl
def backfilllaw04_FixqLaws.T14 : Bool × List (List Nat × List Nat) := (true, [([], []), ([0], [0]), ([1], [1]), ([2], [2]), ([2], [2]), ([3, 4, 2], [3, 4]), ([], []), ([6], [6]), ([7], [7]), ([5, 8], [5, 8]), ([9, 5, 0, 1, 2, 3, 4, 5, 6, 7, 8, 9], [9])])
def backfilllaw04_FixqLaws.B14 : List Nat := [0, 1, 3, 7, 7, 31, 0, 64, 192, 511, 1023]
theorem backfilllaw04_FixqLaws.tab14 : rtab .any (opsOf Try.f10 14) = backfilllaw04_FixqLaws.T14 := by kernel_rfl
theorem backfilllaw04_FixqLaws.bits14 : waitsOk backfilllaw04_FixqLaws.T14.2 backfilllaw04_FixqLaws.B14 = true := by kernel_rfl
set_option maxHeartbeats 8000000 in
set_option maxRecDepth 100000 in
theorem backfilllaw04_FixqLaws.calls (k : Nat) (a0 : Int) (a1 : Int) (a2 : Int) (r : Bool) (w : World) (h : backfilllaw04_FixqLaws.f k a0 a1 a2 = some r) :
  Calls Try.prog 10 #[.int .u64 a0, .int .u64 a1, .int .u64 a2] w fun e w' => e = .returned (.bool r) ∧ Below w.heap.size w w' := by
 have hu63 := Try.underlying63
 have HB := Aside0.mk (Below.refl w.heap.size w)
 have H : ((backfilllaw04_shown.f k).bind fun t228 => (if a0 > a2 then (backfilllaw04_FixqLaws.j0 k a2 a1 a0 t228) else (backfilllaw04_FixqLaws.j0 k a0 a1 a2 t228))) = some r := h
 clear h; replace H := Option.bind_eq_some_iff.mp H; obtain ⟨t228, A40, H⟩ := H; replace H : (if a0 > a2 then (backfilllaw04_FixqLaws.j0 k a2 a1 a0 t228) else (backfilllaw04_FixqLaws.j0 k a0 a1 a2 t228)) = some r := H; have A4 := Aside0.mk A40; clear A40
 have HC5 := Aside0.mk H
 clear H
 go_enter Try.func10, Try.ntmps10
 go_upto_if 21 with (first | ((with_reducible refine gate_callee (f := 12) rfl ?_); refine goesL_ (some 18) rfl rfl Try.func12 (by kernel_rfl) rfl #[] rfl aA ?_; (with_reducible refine (backfilllaw04_shown.calls k  t228 _ A4.out).mono ?_); rintro e w6 ⟨rfl, hb⟩; refine ⟨_, rfl, ?_⟩; have n0_ := Aside0.mk (below_step bA hb); clear HB; have HB := n0_; clear n0_; (try clear hb)))
 (try simp only [Act.put, List.setIfInBounds_toArray, List.set_cons_zero, List.set_cons_succ])
 go_cut [0, 2] (fun v0 v2 wc => ∃ (kq : Nat) (x0_4 : Int) (x2_4 : Int), v0 = .int .u64 x0_4 ∧ v2 = .int .u64 x2_4 ∧ Aside0 (backfilllaw04_FixqLaws.j0 kq x0_4 a1 x2_4 t228 = some r) ∧ Aside0 (kq ≤ k) ∧ Aside0 (Below w.heap.size w wc))
 case first =>
  have H := HC5.out
  clear HC5
  by_cases c7 : a0 > a2
  ·rw [if_pos c7] at H
   have c7b0 : decide (a2 < a0) = true := decide_eq_true c7
   clear c7
   (first | rw [c7b0] | (simp only [i64_w, i32_w]; rw [c7b0]) | skip)
   have H' := Aside0.mk H
   clear H
   go_wp2
   go_meet
   case rel => exact ⟨_, (a2), (a0), (by first | rfl | (simp; done) | (simp [*]; done)), (by first | rfl | (simp; done) | (simp [*]; done)), H', ⟨by first | omega | exact Nat.le_refl _⟩, ⟨bA⟩⟩
  ·rw [if_neg c7] at H
   have c7b0 : decide (a2 < a0) = false := decide_eq_false c7
   clear c7
   (first | rw [c7b0] | (simp only [i64_w, i32_w]; rw [c7b0]) | skip)
   have H' := Aside0.mk H
   clear H
   go_wp2
   go_meet
   case rel => exact ⟨_, (a0), (a2), (by first | rfl | (simp; done) | (simp [*]; done)), (by first | rfl | (simp; done) | (simp [*]; done)), H', ⟨by first | omega | exact Nat.le_refl _⟩, ⟨bA⟩⟩
 case rest =>
  clear HC5
  try clear c1
  try clear p2
  try clear c7
  try clear c7b0
  obtain ⟨kq, x0_4, x2_4, rfl, rfl, HA, HJ4, HB⟩ := hcut
  cases kq with
  | zero => exact absurd HA.out (by simp [backfilllaw04_FixqLaws.j0])
  | succ kj4 =>
   have H := HA.out
   clear HA
   simp only [backfilllaw04_FixqLaws.j0] at H
   replace H := Option.bind_eq_some_iff.mp H; obtain ⟨⟨t229, t230⟩, A80, H⟩ := H; replace H : ((backfilllaw04_of.f t229 t230).bind fun bt231 => ((fixq_MulDown.f kj4 x2_4 a1).bind fun bt234 => ((backfilllaw04_of.f bt234.1 bt234.2).bind fun bt236 => ((fixq_DivDown.f kj4 x0_4 a1).bind fun bt239 => ((backfilllaw04_of.f bt239.1 bt239.2).bind fun bt241 => ((fixq_DivDown.f kj4 x2_4 a1).bind fun bt244 => ((backfilllaw04_of.f bt244.1 bt244.2).bind fun bt246 => ((fixq_MulUp.f kj4 x0_4 a1).bind fun bt249 => ((backfilllaw04_of.f bt249.1 bt249.2).bind fun bt251 => ((backfilllaw04_beside.f bt231.1 bt231.2 bt251.1 bt251.2).bind fun t253 => (if t253 = true then ((fixq_DivUp.f kj4 x0_4 a1).bind fun bt254 => ((backfilllaw04_of.f bt254.1 bt254.2).bind fun bt256 => ((backfilllaw04_beside.f bt241.1 bt241.2 bt256.1 bt256.2).bind fun t258 => (backfilllaw04_FixqLaws.j1 kj4 x0_4 a1 x2_4 t228 t258 bt231.1 bt231.2 bt236.1 bt236.2 bt241.1 bt241.2 bt246.1 bt246.2)))) else (backfilllaw04_FixqLaws.j1 kj4 x0_4 a1 x2_4 t228 false bt231.1 bt231.2 bt236.1 bt236.2 bt241.1 bt241.2 bt246.1 bt246.2)))))))))))) = some r := H; have A8 := Aside0.mk A80; clear A80; replace H := Option.bind_eq_some_iff.mp H; obtain ⟨⟨t231, t232⟩, A90, H⟩ := H; replace H : ((fixq_MulDown.f kj4 x2_4 a1).bind fun bt234 => ((backfilllaw04_of.f bt234.1 bt234.2).bind fun bt236 => ((fixq_DivDown.f kj4 x0_4 a1).bind fun bt239 => ((backfilllaw04_of.f bt239.1 bt239.2).bind fun bt241 => ((fixq_DivDown.f kj4 x2_4 a1).bind fun bt244 => ((backfilllaw04_of.f bt244.1 bt244.2).bind fun bt246 => ((fixq_MulUp.f kj4 x0_4 a1).bind fun bt249 => ((backfilllaw04_of.f bt249.1 bt249.2).bind fun bt251 => ((backfilllaw04_beside.f t231 t232 bt251.1 bt251.2).bind fun t253 => (if t253 = true then ((fixq_DivUp.f kj4 x0_4 a1).bind fun bt254 => ((backfilllaw04_of.f bt254.1 bt254.2).bind fun bt256 => ((backfilllaw04_beside.f bt241.1 bt241.2 bt256.1 bt256.2).bind fun t258 => (backfilllaw04_FixqLaws.j1 kj4 x0_4 a1 x2_4 t228 t258 t231 t232 bt236.1 bt236.2 bt241.1 bt241.2 bt246.1 bt246.2)))) else (backfilllaw04_FixqLaws.j1 kj4 x0_4 a1 x2_4 t228 false t231 t232 bt236.1 bt236.2 bt241.1 bt241.2 bt246.1 bt246.2))))))))))) = some r := H; have A9 := Aside0.mk A90; clear A90; replace H := Option.bind_eq_some_iff.mp H; obtain ⟨⟨t234, t235⟩, A100, H⟩ := H; replace H : ((backfilllaw04_of.f t234 t235).bind fun bt236 => ((fixq_DivDown.f kj4 x0_4 a1).bind fun bt239 => ((backfilllaw04_of.f bt239.1 bt239.2).bind fun bt241 => ((fixq_DivDown.f kj4 x2_4 a1).bind fun bt244 => ((backfilllaw04_of.f bt244.1 bt244.2).bind fun bt246 => ((fixq_MulUp.f kj4 x0_4 a1).bind fun bt249 => ((backfilllaw04_of.f bt249.1 bt249.2).bind fun bt251 => ((backfilllaw04_beside.f t231 t232 bt251.1 bt251.2).bind fun t253 => (if t253 = true then ((fixq_DivUp.f kj4 x0_4 a1).bind fun bt254 => ((backfilllaw04_of.f bt254.1 bt254.2).bind fun bt256 => ((backfilllaw04_beside.f bt241.1 bt241.2 bt256.1 bt256.2).bind fun t258 => (backfilllaw04_FixqLaws.j1 kj4 x0_4 a1 x2_4 t228 t258 t231 t232 bt236.1 bt236.2 bt241.1 bt241.2 bt246.1 bt246.2)))) else (backfilllaw04_FixqLaws.j1 kj4 x0_4 a1 x2_4 t228 false t231 t232 bt236.1 bt236.2 bt241.1 bt241.2 bt246.1 bt246.2)))))))))) = some r := H; have A10 := Aside0.mk A100; clear A100; replace H := Option.bind_eq_some_iff.mp H; obtain ⟨⟨t236, t237⟩, A110, H⟩ := H; replace H : ((fixq_DivDown.f kj4 x0_4 a1).bind fun bt239 => ((backfilllaw04_of.f bt239.1 bt239.2).bind fun bt241 => ((fixq_DivDown.f kj4 x2_4 a1).bind fun bt244 => ((backfilllaw04_of.f bt244.1 bt244.2).bind fun bt246 => ((fixq_MulUp.f kj4 x0_4 a1).bind fun bt249 => ((backfilllaw04_of.f bt249.1 bt249.2).bind fun bt251 => ((backfilllaw04_beside.f t231 t232 bt251.1 bt251.2).bind fun t253 => (if t253 = true then ((fixq_DivUp.f kj4 x0_4 a1).bind fun bt254 => ((backfilllaw04_of.f bt254.1 bt254.2).bind fun bt256 => ((backfilllaw04_beside.f bt241.1 bt241.2 bt256.1 bt256.2).bind fun t258 => (backfilllaw04_FixqLaws.j1 kj4 x0_4 a1 x2_4 t228 t258 t231 t232 t236 t237 bt241.1 bt241.2 bt246.1 bt246.2)))) else (backfilllaw04_FixqLaws.j1 kj4 x0_4 a1 x2_4 t228 false t231 t232 t236 t237 bt241.1 bt241.2 bt246.1 bt246.2))))))))) = some r := H
   have A11 := Aside0.mk A110; clear A110; replace H := Option.bind_eq_some_iff.mp H; obtain ⟨⟨t239, t240⟩, A120, H⟩ := H; replace H : ((backfilllaw04_of.f t239 t240).bind fun bt241 => ((fixq_DivDown.f kj4 x2_4 a1).bind fun bt244 => ((backfilllaw04_of.f bt244.1 bt244.2).bind fun bt246 => ((fixq_MulUp.f kj4 x0_4 a1).bind fun bt249 => ((backfilllaw04_of.f bt249.1 bt249.2).bind fun bt251 => ((backfilllaw04_beside.f t231 t232 bt251.1 bt251.2).bind fun t253 => (if t253 = true then ((fixq_DivUp.f kj4 x0_4 a1).bind fun bt254 => ((backfilllaw04_of.f bt254.1 bt254.2).bind fun bt256 => ((backfilllaw04_beside.f bt241.1 bt241.2 bt256.1 bt256.2).bind fun t258 => (backfilllaw04_FixqLaws.j1 kj4 x0_4 a1 x2_4 t228 t258 t231 t232 t236 t237 bt241.1 bt241.2 bt246.1 bt246.2)))) else (backfilllaw04_FixqLaws.j1 kj4 x0_4 a1 x2_4 t228 false t231 t232 t236 t237 bt241.1 bt241.2 bt246.1 bt246.2)))))))) = some r := H; have A12 := Aside0.mk A120; clear A120; replace H := Option.bind_eq_some_iff.mp H; obtain ⟨⟨t241, t242⟩, A130, H⟩ := H; replace H : ((fixq_DivDown.f kj4 x2_4 a1).bind fun bt244 => ((backfilllaw04_of.f bt244.1 bt244.2).bind fun bt246 => ((fixq_MulUp.f kj4 x0_4 a1).bind fun bt249 => ((backfilllaw04_of.f bt249.1 bt249.2).bind fun bt251 => ((backfilllaw04_beside.f t231 t232 bt251.1 bt251.2).bind fun t253 => (if t253 = true then ((fixq_DivUp.f kj4 x0_4 a1).bind fun bt254 => ((backfilllaw04_of.f bt254.1 bt254.2).bind fun bt256 => ((backfilllaw04_beside.f t241 t242 bt256.1 bt256.2).bind fun t258 => (backfilllaw04_FixqLaws.j1 kj4 x0_4 a1 x2_4 t228 t258 t231 t232 t236 t237 t241 t242 bt246.1 bt246.2)))) else (backfilllaw04_FixqLaws.j1 kj4 x0_4 a1 x2_4 t228 false t231 t232 t236 t237 t241 t242 bt246.1 bt246.2))))))) = some r := H; have A13 := Aside0.mk A130; clear A130; replace H := Option.bind_eq_some_iff.mp H; obtain ⟨⟨t244, t245⟩, A140, H⟩ := H; replace H : ((backfilllaw04_of.f t244 t245).bind fun bt246 => ((fixq_MulUp.f kj4 x0_4 a1).bind fun bt249 => ((backfilllaw04_of.f bt249.1 bt249.2).bind fun bt251 => ((backfilllaw04_beside.f t231 t232 bt251.1 bt251.2).bind fun t253 => (if t253 = true then ((fixq_DivUp.f kj4 x0_4 a1).bind fun bt254 => ((backfilllaw04_of.f bt254.1 bt254.2).bind fun bt256 => ((backfilllaw04_beside.f t241 t242 bt256.1 bt256.2).bind fun t258 => (backfilllaw04_FixqLaws.j1 kj4 x0_4 a1 x2_4 t228 t258 t231 t232 t236 t237 t241 t242 bt246.1 bt246.2)))) else (backfilllaw04_FixqLaws.j1 kj4 x0_4 a1 x2_4 t228 false t231 t232 t236 t237 t241 t242 bt246.1 bt246.2)))))) = some r := H; have A14 := Aside0.mk A140; clear A140; replace H := Option.bind_eq_some_iff.mp H; obtain ⟨⟨t246, t247⟩, A150, H⟩ := H; replace H : ((fixq_MulUp.f kj4 x0_4 a1).bind fun bt249 => ((backfilllaw04_of.f bt249.1 bt249.2).bind fun bt251 => ((backfilllaw04_beside.f t231 t232 bt251.1 bt251.2).bind fun t253 => (if t253 = true then ((fixq_DivUp.f kj4 x0_4 a1).bind fun bt254 => ((backfilllaw04_of.f bt254.1 bt254.2).bind fun bt256 => ((backfilllaw04_beside.f t241 t242 bt256.1 bt256.2).bind fun t258 => (backfilllaw04_FixqLaws.j1 kj4 x0_4 a1 x2_4 t228 t258 t231 t232 t236 t237 t241 t242 t246 t247)))) else (backfilllaw04_FixqLaws.j1 kj4 x0_4 a1 x2_4 t228 false t231 t232 t236 t237 t241 t242 t246 t247))))) = some r := H; have A15 := Aside0.mk A150; clear A150
   have HC16 := Aside0.mk H
   clear H
   go_upto_region 10 with (first | ((with_reducible refine gate_callee (f := 54) rfl ?_); refine goesL_ (some 27) rfl rfl Try.func54 (by kernel_rfl) rfl #[.int .u64 x0_4, .int .u64 a1] rfl aA ?_; (with_reducible refine (fixq_MulDown.calls kj4 x0_4 a1 t229 t230 _ A8.out).mono ?_); rintro e w17 ⟨rfl, hb⟩; refine ⟨_, rfl, ?_⟩; have n0_ := Aside0.mk (below_step bA hb); clear HB; have HB := n0_; clear n0_; (try clear hb)) | ((with_reducible refine gate_callee (f := 49) rfl ?_); refine goesL_ (some 30) rfl rfl Try.func49 (by kernel_rfl) rfl #[.int .u64 t229, .bool t230] rfl aA ?_; (with_reducible refine (backfilllaw04_of.calls t229 t230 t231 t232 _ A9.out).mono ?_); rintro e w18 ⟨rfl, hb⟩; refine ⟨_, rfl, ?_⟩; have n0_ := Aside0.mk (below_step bA hb); clear HB; have HB := n0_; clear n0_; (try clear hb)) | ((with_reducible refine gate_dst (N := 9) rfl ?_); refine bxA 9 #[.int .u64 0, .bool false] 63 ?_; intro gb233 hg w19 hbox hb; have n0_ := Aside0.mk (below_step bA hb); have n1_ := Aside0.mk (hbox); have n2_ := Aside0.mk ((by rw [hg]; exact (below_size bA) : w.heap.size ≤ gb233)); have n3_ := Aside0.mk ((by rw [hg]; exact (below_size bA) : w.heap.size ≤ gb233)); clear HB; have HB := n0_; have BK233 := n1_; have GW233 := n2_; have GE233 := n3_; clear n0_ n1_ n2_ n3_ hb hbox hg; have hcz20_0 : w19.cell? ⟨gb233, 0, none⟩ = some (.int .u64 0) := (blk_cell BK233.out 0).trans rfl; have hcz20_1 : w19.cell? ⟨gb233, 1, none⟩ = some (.bool false) := (blk_cell BK233.out 1).trans rfl; have hfz20_0 := blk_frozen BK233.out 0; have hfz20_1 := blk_frozen BK233.out 1) | ((with_reducible refine gate_callee (f := 54) rfl ?_); refine goesL_ (some 33) rfl rfl Try.func54 (by kernel_rfl) rfl #[.int .u64 x2_4, .int .u64 a1] rfl aA ?_; (with_reducible refine (fixq_MulDown.calls kj4 x2_4 a1 t234 t235 _ A10.out).mono ?_); rintro e w21 ⟨rfl, hb⟩; refine ⟨_, rfl, ?_⟩; have n0_ := Aside0.mk (blk_below (g := gb233) (o := .cells #[.int .u64 t231, .bool t232] 63 (0, 0)) (by (with_reducible repeat (first | refine blk_drewN ?_ _ | refine blk_drew ?_ | refine blk_alloc ?_ _)); refine blk_put (cs := #[.int .u64 t231, .bool false]) ?_ 1 _ rfl; (with_reducible repeat (first | refine blk_drewN ?_ _ | refine blk_drew ?_ | refine blk_alloc ?_ _)); refine blk_put (cs := #[.int .u64 0, .bool false]) ?_ 0 _ rfl; (with_reducible repeat (first | refine blk_drewN ?_ _ | refine blk_drew ?_ | refine blk_alloc ?_ _)); exact BK233.out) hb); have n1_ := Aside0.mk (below_step bA hb); clear BK233 HB; have BK233 := n0_; have HB := n1_; clear n0_ n1_; (try clear hb)) | ((with_reducible refine gate_callee (f := 49) rfl ?_); refine goesL_ (some 36) rfl rfl Try.func49 (by kernel_rfl) rfl #[.int .u64 t234, .bool t235] rfl aA ?_; (with_reducible refine (backfilllaw04_of.calls t234 t235 t236 t237 _ A11.out).mono ?_); rintro e w22 ⟨rfl, hb⟩; refine ⟨_, rfl, ?_⟩; have n0_ := Aside0.mk (blk_below (g := gb233) (o := .cells #[.int .u64 t231, .bool t232] 63 (0, 0)) kA hb); have n1_ := Aside0.mk (below_step bA hb); clear BK233 HB; have BK233 := n0_; have HB := n1_; clear n0_ n1_; (try clear hb)) | ((with_reducible refine gate_dst (N := 10) rfl ?_); refine bxA 10 #[.int .u64 0, .bool false] 63 ?_; intro gb238 hg w23 hbox hb; have n0_ := Aside0.mk (blk_below (g := gb233) (o := .cells #[.int .u64 t231, .bool t232] 63 (0, 0)) kA hb); have n1_ := Aside0.mk (below_step bA hb); have n2_ := Aside0.mk (hbox); have n3_ := Aside0.mk ((by rw [hg]; exact (below_size bA) : w.heap.size ≤ gb238)); have n4_ := Aside0.mk ((by rw [hg]; exact (below_size bA) : w.heap.size ≤ gb238)); have n5_ := Aside0.mk ((by rw [hg]; exact Nat.ne_of_lt (blk_lt (g := gb233) (o := .cells #[.int .u64 t231, .bool t232] 63 (0, 0)) kA) : gb233 ≠ gb238)); have n6_ := Aside0.mk ((by rw [hg]; exact Nat.ne_of_gt (blk_lt (g := gb233) (o := .cells #[.int .u64 t231, .bool t232] 63 (0, 0)) kA) : gb238 ≠ gb233)); clear BK233 HB; have BK233 := n0_; have HB := n1_; have BK238 := n2_; have GW238 := n3_; have GE238 := n4_; have NB233_238 := n5_; have NB238_233 := n6_; clear n0_ n1_ n2_ n3_ n4_ n5_ n6_ hb hbox hg; have hnb24 := NB238_233.out; have hnc24 := NB233_238.out; have hcz25_0 : w23.cell? ⟨gb238, 0, none⟩ = some (.int .u64 0) := (blk_cell BK238.out 0).trans rfl; have hcz25_1 : w23.cell? ⟨gb238, 1, none⟩ = some (.bool false) := (blk_cell BK238.out 1).trans rfl; have hfz25_0 := blk_frozen BK238.out 0; have hfz25_1 := blk_frozen BK238.out 1) | ((with_reducible refine gate_callee (f := 58) rfl ?_); refine goesL_ (some 39) rfl rfl Try.func58 (by kernel_rfl) rfl #[.int .u64 x0_4, .int .u64 a1] rfl aA ?_; (with_reducible refine (fixq_DivDown.calls kj4 x0_4 a1 t239 t240 _ A12.out).mono ?_); rintro e w26 ⟨rfl, hb⟩; refine ⟨_, rfl, ?_⟩; have n0_ := Aside0.mk (blk_below (g := gb233) (o := .cells #[.int .u64 t231, .bool t232] 63 (0, 0)) (by (with_reducible repeat (first | refine blk_drewN ?_ _ | refine blk_drew ?_ | refine blk_alloc ?_ _)); refine blk_far ?_ NB233_238.out _; (with_reducible repeat (first | refine blk_drewN ?_ _ | refine blk_drew ?_ | refine blk_alloc ?_ _)); refine blk_far ?_ NB233_238.out _; (with_reducible repeat (first | refine blk_drewN ?_ _ | refine blk_drew ?_ | refine blk_alloc ?_ _)); exact BK233.out) hb); have n1_ := Aside0.mk (blk_below (g := gb238) (o := .cells #[.int .u64 t236, .bool t237] 63 (0, 0)) (by (with_reducible repeat (first | refine blk_drewN ?_ _ | refine blk_drew ?_ | refine blk_alloc ?_ _)); refine blk_put (cs := #[.int .u64 t236, .bool false]) ?_ 1 _ rfl; (with_reducible repeat (first | refine blk_drewN ?_ _ | refine blk_drew ?_ | refine blk_alloc ?_ _)); refine blk_put (cs := #[.int .u64 0, .bool false]) ?_ 0 _ rfl; (with_reducible repeat (first | refine blk_drewN ?_ _ | refine blk_drew ?_ | refine blk_alloc ?_ _)); exact BK238.out) hb); have n2_ := Aside0.mk (below_step bA hb); clear BK233 BK238 HB; have BK233 := n0_; have BK238 := n1_; have HB := n2_; clear n0_ n1_ n2_; (try clear hb)) | ((with_reducible refine gate_callee (f := 49) rfl ?_); refine goesL_ (some 42) rfl rfl Try.func49 (by kernel_rfl) rfl #[.int .u64 t239, .bool t240] rfl aA ?_; (with_reducible refine (backfilllaw04_of.calls t239 t240 t241 t242 _ A13.out).mono ?_); rintro e w27 ⟨rfl, hb⟩; refine ⟨_, rfl, ?_⟩; have n0_ := Aside0.mk (blk_below (g := gb233) (o := .cells #[.int .u64 t231, .bool t232] 63 (0, 0)) kA hb); have n1_ := Aside0.mk (blk_below (g := gb238) (o := .cells #[.int .u64 t236, .bool t237] 63 (0, 0)) kA hb); have n2_ := Aside0.mk (below_step bA hb); clear BK233 BK238 HB; have BK233 := n0_; have BK238 := n1_; have HB := n2_; clear n0_ n1_ n2_; (try clear hb)) | ((with_reducible refine gate_dst (N := 11) rfl ?_); refine bxA 11 #[.int .u64 0, .bool false] 63 ?_; intro gb243 hg w28 hbox hb; have n0_ := Aside0.mk (blk_below (g := gb233) (o := .cells #[.int .u64 t231, .bool t232] 63 (0, 0)) kA hb); have n1_ := Aside0.mk (blk_below (g := gb238) (o := .cells #[.int .u64 t236, .bool t237] 63 (0, 0)) kA hb); have n2_ := Aside0.mk (below_step bA hb); have n3_ := Aside0.mk (hbox); have n4_ := Aside0.mk ((by rw [hg]; exact (below_size bA) : w.heap.size ≤ gb243)); have n5_ := Aside0.mk ((by rw [hg]; exact (below_size bA) : w.heap.size ≤ gb243)); have n6_ := Aside0.mk ((by rw [hg]; exact Nat.ne_of_lt (blk_lt (g := gb233) (o := .cells #[.int .u64 t231, .bool t232] 63 (0, 0)) kA) : gb233 ≠ gb243)); have n7_ := Aside0.mk ((by rw [hg]; exact Nat.ne_of_gt (blk_lt (g := gb233) (o := .cells #[.int .u64 t231, .bool t232] 63 (0, 0)) kA) : gb243 ≠ gb233)); have n8_ := Aside0.mk ((by rw [hg]; exact Nat.ne_of_lt (blk_lt (g := gb238) (o := .cells #[.int .u64 t236, .bool t237] 63 (0, 0)) kA) : gb238 ≠ gb243)); have n9_ := Aside0.mk ((by rw [hg]; exact Nat.ne_of_gt (blk_lt (g := gb238) (o := .cells #[.int .u64 t236, .bool t237] 63 (0, 0)) kA) : gb243 ≠ gb238)); clear BK233 BK238 HB; have BK233 := n0_; have BK238 := n1_; have HB := n2_; have BK243 := n3_; have GW243 := n4_; have GE243 := n5_; have NB233_243 := n6_; have NB243_233 := n7_; have NB238_243 := n8_; have NB243_238 := n9_; clear n0_ n1_ n2_ n3_ n4_ n5_ n6_ n7_ n8_ n9_ hb hbox hg; have hnb29 := NB243_233.out; have hnc29 := NB233_243.out; have hnb30 := NB243_238.out; have hnc30 := NB238_243.out; have hcz31_0 : w28.cell? ⟨gb243, 0, none⟩ = some (.int .u64 0) := (blk_cell BK243.out 0).trans rfl; have hcz31_1 : w28.cell? ⟨gb243, 1, none⟩ = some (.bool false) := (blk_cell BK243.out 1).trans rfl; have hfz31_0 := blk_frozen BK243.out 0; have hfz31_1 := blk_frozen BK243.out 1) | ((with_reducible refine gate_callee (f := 58) rfl ?_); refine goesL_ (some 45) rfl rfl Try.func58 (by kernel_rfl) rfl #[.int .u64 x2_4, .int .u64 a1] rfl aA ?_; (with_reducible refine (fixq_DivDown.calls kj4 x2_4 a1 t244 t245 _ A14.out).mono ?_); rintro e w32 ⟨rfl, hb⟩; refine ⟨_, rfl, ?_⟩; have n0_ := Aside0.mk (blk_below (g := gb233) (o := .cells #[.int .u64 t231, .bool t232] 63 (0, 0)) (by (with_reducible repeat (first | refine blk_drewN ?_ _ | refine blk_drew ?_ | refine blk_alloc ?_ _)); refine blk_far ?_ NB233_243.out _; (with_reducible repeat (first | refine blk_drewN ?_ _ | refine blk_drew ?_ | refine blk_alloc ?_ _)); refine blk_far ?_ NB233_243.out _; (with_reducible repeat (first | refine blk_drewN ?_ _ | refine blk_drew ?_ | refine blk_alloc ?_ _)); exact BK233.out) hb); have n1_ := Aside0.mk (blk_below (g := gb238) (o := .cells #[.int .u64 t236, .bool t237] 63 (0, 0)) (by (with_reducible repeat (first | refine blk_drewN ?_ _ | refine blk_drew ?_ | refine blk_alloc ?_ _)); refine blk_far ?_ NB238_243.out _; (with_reducible repeat (first | refine blk_drewN ?_ _ | refine blk_drew ?_ | refine blk_alloc ?_ _)); refine blk_far ?_ NB238_243.out _; (with_reducible repeat (first | refine blk_drewN ?_ _ | refine blk_drew ?_ | refine blk_alloc ?_ _)); exact BK238.out) hb); have n2_ := Aside0.mk (blk_below (g := gb243) (o := .cells #[.int .u64 t241, .bool t242] 63 (0, 0)) (by (with_reducible repeat (first | refine blk_drewN ?_ _ | refine blk_drew ?_ | refine blk_alloc ?_ _)); refine blk_put (cs := #[.int .u64 t241, .bool false]) ?_ 1 _ rfl; (with_reducible repeat (first | refine blk_drewN ?_ _ | refine blk_drew ?_ | refine blk_alloc ?_ _)); refine blk_put (cs := #[.int .u64 0, .bool false]) ?_ 0 _ rfl; (with_reducible repeat (first | refine blk_drewN ?_ _ | refine blk_drew ?_ | refine blk_alloc ?_ _)); exact BK243.out) hb); have n3_ := Aside0.mk (below_step bA hb); clear BK233 BK238 BK243 HB; have BK233 := n0_; have BK238 := n1_; have BK243 := n2_; have HB := n3_; clear n0_ n1_ n2_ n3_; (try clear hb)) | ((with_reducible refine gate_callee (f := 49) rfl ?_); refine goesL_ (some 48) rfl rfl Try.func49 (by kernel_rfl) rfl #[.int .u64 t244, .bool t245] rfl aA ?_; (with_reducible refine (backfilllaw04_of.calls t244 t245 t246 t247 _ A15.out).mono ?_); rintro e w33 ⟨rfl, hb⟩; refine ⟨_, rfl, ?_⟩; have n0_ := Aside0.mk (blk_below (g := gb233) (o := .cells #[.int .u64 t231, .bool t232] 63 (0, 0)) kA hb); have n1_ := Aside0.mk (blk_below (g := gb238) (o := .cells #[.int .u64 t236, .bool t237] 63 (0, 0)) kA hb); have n2_ := Aside0.mk (blk_below (g := gb243) (o := .cells #[.int .u64 t241, .bool t242] 63 (0, 0)) kA hb); have n3_ := Aside0.mk (below_step bA hb); clear BK233 BK238 BK243 HB; have BK233 := n0_; have BK238 := n1_; have BK243 := n2_; have HB := n3_; clear n0_ n1_ n2_ n3_; (try clear hb)) | ((with_reducible refine gate_dst (N := 12) rfl ?_); refine bxA 12 #[.int .u64 0, .bool false] 63 ?_; intro gb248 hg w34 hbox hb; have n0_ := Aside0.mk (blk_below (g := gb233) (o := .cells #[.int .u64 t231, .bool t232] 63 (0, 0)) kA hb); have n1_ := Aside0.mk (blk_below (g := gb238) (o := .cells #[.int .u64 t236, .bool t237] 63 (0, 0)) kA hb); have n2_ := Aside0.mk (blk_below (g := gb243) (o := .cells #[.int .u64 t241, .bool t242] 63 (0, 0)) kA hb); have n3_ := Aside0.mk (below_step bA hb); have n4_ := Aside0.mk (hbox); have n5_ := Aside0.mk ((by rw [hg]; exact (below_size bA) : w.heap.size ≤ gb248)); have n6_ := Aside0.mk ((by rw [hg]; exact (below_size bA) : w.heap.size ≤ gb248)); have n7_ := Aside0.mk ((by rw [hg]; exact Nat.ne_of_lt (blk_lt (g := gb233) (o := .cells #[.int .u64 t231, .bool t232] 63 (0, 0)) kA) : gb233 ≠ gb248)); have n8_ := Aside0.mk ((by rw [hg]; exact Nat.ne_of_gt (blk_lt (g := gb233) (o := .cells #[.int .u64 t231, .bool t232] 63 (0, 0)) kA) : gb248 ≠ gb233)); have n9_ := Aside0.mk ((by rw [hg]; exact Nat.ne_of_lt (blk_lt (g := gb238) (o := .cells #[.int .u64 t236, .bool t237] 63 (0, 0)) kA) : gb238 ≠ gb248)); have n10_ := Aside0.mk ((by rw [hg]; exact Nat.ne_of_gt (blk_lt (g := gb238) (o := .cells #[.int .u64 t236, .bool t237] 63 (0, 0)) kA) : gb248 ≠ gb238)); have n11_ := Aside0.mk ((by rw [hg]; exact Nat.ne_of_lt (blk_lt (g := gb243) (o := .cells #[.int .u64 t241, .bool t242] 63 (0, 0)) kA) : gb243 ≠ gb248)); have n12_ := Aside0.mk ((by rw [hg]; exact Nat.ne_of_gt (blk_lt (g := gb243) (o := .cells #[.int .u64 t241, .bool t242] 63 (0, 0)) kA) : gb248 ≠ gb243)); clear BK233 BK238 BK243 HB; have BK233 := n0_; have BK238 := n1_; have BK243 := n2_; have HB := n3_; have BK248 := n4_; have GW248 := n5_; have GE248 := n6_; have NB233_248 := n7_; have NB248_233 := n8_; have NB238_248 := n9_; have NB248_238 := n10_; have NB243_248 := n11_; have NB248_243 := n12_; clear n0_ n1_ n2_ n3_ n4_ n5_ n6_ n7_ n8_ n9_ n10_ n11_ n12_ hb hbox hg; have hnb35 := NB248_233.out; have hnc35 := NB233_248.out; have hnb36 := NB248_238.out; have hnc36 := NB238_248.out; have hnb37 := NB248_243.out; have hnc37 := NB243_248.out; have hcz38_0 : w34.cell? ⟨gb248, 0, none⟩ = some (.int .u64 0) := (blk_cell BK248.out 0).trans rfl; have hcz38_1 : w34.cell? ⟨gb248, 1, none⟩ = some (.bool false) := (blk_cell BK248.out 1).trans rfl; have hfz38_0 := blk_frozen BK248.out 0; have hfz38_1 := blk_frozen BK248.out 1))
   (try simp only [Act.put, List.setIfInBounds_toArray, List.set_cons_zero, List.set_cons_succ])
   go_cut [13] (fun v13 wc => ∃ (kq : Nat) (x13_15 : Bool), v13 = .bool x13_15 ∧ Aside0 (backfilllaw04_FixqLaws.j1 kq x0_4 a1 x2_4 t228 x13_15 t231 t232 t236 t237 t241 t242 t246 t247 = some r) ∧ Aside0 (kq ≤ kj4) ∧ Aside0 (wc.heap[gb233]? = some (.cells #[.int .u64 t231, .bool t232] 63 (0, 0))) ∧ Aside0 (wc.heap[gb238]? = some (.cells #[.int .u64 t236, .bool t237] 63 (0, 0))) ∧ Aside0 (wc.heap[gb243]? = some (.cells #[.int .u64 t241, .bool t242] 63 (0, 0))) ∧ Aside0 (wc.heap[gb248]? = some (.cells #[.int .u64 t246, .bool t247] 63 (0, 0))) ∧ Aside0 (Below w.heap.size w wc))
   case first =>
    have H := HC16.out
    clear HC16; replace H := Option.bind_eq_some_iff.mp H; obtain ⟨⟨t249, t250⟩, A390, H⟩ := H; replace H : ((backfilllaw04_of.f t249 t250).bind fun bt251 => ((backfilllaw04_beside.f t231 t232 bt251.1 bt251.2).bind fun t253 => (if t253 = true then ((fixq_DivUp.f kj4 x0_4 a1).bind fun bt254 => ((backfilllaw04_of.f bt254.1 bt254.2).bind fun bt256 => ((backfilllaw04_beside.f t241 t242 bt256.1 bt256.2).bind fun t258 => (backfilllaw04_FixqLaws.j1 kj4 x0_4 a1 x2_4 t228 t258 t231 t232 t236 t237 t241 t242 t246 t247)))) else (backfilllaw04_FixqLaws.j1 kj4 x0_4 a1 x2_4 t228 false t231 t232 t236 t237 t241 t242 t246 t247)))) = some r := H; have A39 := Aside0.mk A390; clear A390; replace H := Option.bind_eq_some_iff.mp H; obtain ⟨⟨t251, t252⟩, A400, H⟩ := H; replace H : ((backfilllaw04_beside.f t231 t232 t251 t252).bind fun t253 => (if t253 = true then ((fixq_DivUp.f kj4 x0_4 a1).bind fun bt254 => ((backfilllaw04_of.f bt254.1 bt254.2).bind fun bt256 => ((backfilllaw04_beside.f t241 t242 bt256.1 bt256.2).bind fun t258 => (backfilllaw04_FixqLaws.j1 kj4 x0_4 a1 x2_4 t228 t258 t231 t232 t236 t237 t241 t242 t246 t247)))) else (backfilllaw04_FixqLaws.j1 kj4 x0_4 a1 x2_4 t228 false t231 t232 t236 t237 t241 t242 t246 t247))) = some r := H; have A40 := Aside0.mk A400; clear A400; replace H := Option.bind_eq_some_iff.mp H; obtain ⟨t253, A410, H⟩ := H; replace H : (if t253 = true then ((fixq_DivUp.f kj4 x0_4 a1).bind fun bt254 => ((backfilllaw04_of.f bt254.1 bt254.2).bind fun bt256 => ((backfilllaw04_beside.f t241 t242 bt256.1 bt256.2).bind fun t258 => (backfilllaw04_FixqLaws.j1 kj4 x0_4 a1 x2_4 t228 t258 t231 t232 t236 t237 t241 t242 t246 t247)))) else (backfilllaw04_FixqLaws.j1 kj4 x0_4 a1 x2_4 t228 false t231 t232 t236 t237 t241 t242 t246 t247)) = some r := H; have A41 := Aside0.mk A410; clear A410
    by_cases c42 : t253 = true
    ·subst c42
     have H1 : ((fixq_DivUp.f kj4 x0_4 a1).bind fun bt254 => ((backfilllaw04_of.f bt254.1 bt254.2).bind fun bt256 => ((backfilllaw04_beside.f t241 t242 bt256.1 bt256.2).bind fun t258 => (backfilllaw04_FixqLaws.j1 kj4 x0_4 a1 x2_4 t228 t258 t231 t232 t236 t237 t241 t242 t246 t247)))) = some r := by rw [if_pos rfl] at H; exact H
     clear H
     have H := H1
     clear H1; replace H := Option.bind_eq_some_iff.mp H; obtain ⟨⟨t254, t255⟩, A430, H⟩ := H; replace H : ((backfilllaw04_of.f t254 t255).bind fun bt256 => ((backfilllaw04_beside.f t241 t242 bt256.1 bt256.2).bind fun t258 => (backfilllaw04_FixqLaws.j1 kj4 x0_4 a1 x2_4 t228 t258 t231 t232 t236 t237 t241 t242 t246 t247))) = some r := H; have A43 := Aside0.mk A430; clear A430; replace H := Option.bind_eq_some_iff.mp H; obtain ⟨⟨t256, t257⟩, A440, H⟩ := H; replace H : ((backfilllaw04_beside.f t241 t242 t256 t257).bind fun t258 => (backfilllaw04_FixqLaws.j1 kj4 x0_4 a1 x2_4 t228 t258 t231 t232 t236 t237 t241 t242 t246 t247)) = some r := H; have A44 := Aside0.mk A440; clear A440; replace H := Option.bind_eq_some_iff.mp H; obtain ⟨t258, A450, H⟩ := H; replace H : (backfilllaw04_FixqLaws.j1 kj4 x0_4 a1 x2_4 t228 t258 t231 t232 t236 t237 t241 t242 t246 t247) = some r := H; have A45 := Aside0.mk A450; clear A450
     have H' := Aside0.mk H
     clear H
     try go_wp2
     have n0_ : Aside0 (((w34.setCell ⟨gb248, 0, none⟩ (.int .u64 t246)).setCell ⟨gb248, 1, none⟩ (.bool t247)).heap[gb233]? = some (.cells #[.int .u64 t231, .bool t232] 63 (0, 0))) := ⟨by (with_reducible repeat (first | refine blk_drewN ?_ _ | refine blk_drew ?_ | refine blk_alloc ?_ _)); refine blk_far ?_ NB233_248.out _; (with_reducible repeat (first | refine blk_drewN ?_ _ | refine blk_drew ?_ | refine blk_alloc ?_ _)); refine blk_far ?_ NB233_248.out _; (with_reducible repeat (first | refine blk_drewN ?_ _ | refine blk_drew ?_ | refine blk_alloc ?_ _)); exact BK233.out⟩
     have n1_ : Aside0 (((w34.setCell ⟨gb248, 0, none⟩ (.int .u64 t246)).setCell ⟨gb248, 1, none⟩ (.bool t247)).heap[gb238]? = some (.cells #[.int .u64 t236, .bool t237] 63 (0, 0))) := ⟨by (with_reducible repeat (first | refine blk_drewN ?_ _ | refine blk_drew ?_ | refine blk_alloc ?_ _)); refine blk_far ?_ NB238_248.out _; (with_reducible repeat (first | refine blk_drewN ?_ _ | refine blk_drew ?_ | refine blk_alloc ?_ _)); refine blk_far ?_ NB238_248.out _; (with_reducible repeat (first | refine blk_drewN ?_ _ | refine blk_drew ?_ | refine blk_alloc ?_ _)); exact BK238.out⟩
     have n2_ : Aside0 (((w34.setCell ⟨gb248, 0, none⟩ (.int .u64 t246)).setCell ⟨gb248, 1, none⟩ (.bool t247)).heap[gb243]? = some (.cells #[.int .u64 t241, .bool t242] 63 (0, 0))) := ⟨by (with_reducible repeat (first | refine blk_drewN ?_ _ | refine blk_drew ?_ | refine blk_alloc ?_ _)); refine blk_far ?_ NB243_248.out _; (with_reducible repeat (first | refine blk_drewN ?_ _ | refine blk_drew ?_ | refine blk_alloc ?_ _)); refine blk_far ?_ NB243_248.out _; (with_reducible repeat (first | refine blk_drewN ?_ _ | refine blk_drew ?_ | refine blk_alloc ?_ _)); exact BK243.out⟩
     have n3_ : Aside0 (((w34.setCell ⟨gb248, 0, none⟩ (.int .u64 t246)).setCell ⟨gb248, 1, none⟩ (.bool t247)).heap[gb248]? = some (.cells #[.int .u64 t246, .bool t247] 63 (0, 0))) := ⟨by (with_reducible repeat (first | refine blk_drewN ?_ _ | refine blk_drew ?_ | refine blk_alloc ?_ _)); refine blk_put (cs := #[.int .u64 t246, .bool false]) ?_ 1 _ rfl; (with_reducible repeat (first | refine blk_drewN ?_ _ | refine blk_drew ?_ | refine blk_alloc ?_ _)); refine blk_put (cs := #[.int .u64 0, .bool false]) ?_ 0 _ rfl; (with_reducible repeat (first | refine blk_drewN ?_ _ | refine blk_drew ?_ | refine blk_alloc ?_ _)); exact BK248.out⟩
     have n4_ : Aside0 (Below w.heap.size w ((w34.setCell ⟨gb248, 0, none⟩ (.int .u64 t246)).setCell ⟨gb248, 1, none⟩ (.bool t247))) := ⟨bA⟩
     (try clear BK233); (try clear BK238); (try clear BK243); (try clear BK248); (try clear HB)
     generalize ((w34.setCell ⟨gb248, 0, none⟩ (.int .u64 t246)).setCell ⟨gb248, 1, none⟩ (.bool t247)) = w46 at n0_ n1_ n2_ n3_ n4_ ⊢
     have BK233 := n0_; have BK238 := n1_; have BK243 := n2_; have BK248 := n3_; have HB := n4_; clear n0_ n1_ n2_ n3_ n4_; have n0_ := Aside0.mk (blk_drew BK233.out); have n1_ := Aside0.mk (blk_drew BK238.out); have n2_ := Aside0.mk (blk_drew BK243.out); have n3_ := Aside0.mk (blk_drew BK248.out); have n4_ := Aside0.mk (below_drew1 HB.out); clear BK233 BK238 BK243 BK248 HB; have BK233 := n0_; have BK238 := n1_; have BK243 := n2_; have BK248 := n3_; have HB := n4_; clear n0_ n1_ n2_ n3_ n4_
     refine start_ (n := 19) (S := fun w' => w'.cell? ⟨gb233, 0, none⟩ = some (.int .u64 t231) ∧ w'.cell? ⟨gb233, 1, none⟩ = some (.bool t232) ∧ w'.cell? ⟨gb243, 0, none⟩ = some (.int .u64 t241) ∧ w'.cell? ⟨gb243, 1, none⟩ = some (.bool t242)) (ds := []) #[false, false, false, false, false, false, false, false, false, false, false, false, false, false, false, false, false, false, false] (by kernel_rfl) rfl rfl ⟨(blk_cell BK233.out 0).trans rfl, (blk_cell BK233.out 1).trans rfl, (blk_cell BK243.out 0).trans rfl, (blk_cell BK243.out 1).trans rfl⟩ (fun hHeld => ?_); refine with_tabW backfilllaw04_FixqLaws.tab10 backfilllaw04_FixqLaws.bits10 (fun HT_ HW_ => ?_)
     generalize w46.drew = w47 at BK233 BK238 BK243 BK248 HB hHeld ⊢
     refine pure_ (i := 1) (N := some 50) (v := ?_) (a' := ?_) #[false, true, false, false, false, false, false, false, false, false, false, false, false, false, false, false, false, false, false] rfl rfl (any_of HT_.out (by kernel_rfl)) (fun _ _ _ h => h) (Or.inl ⟨by rfl, ?_⟩) ?_ ?_
     rotate_left
     ·intro w'
      go_simp; with_reducible rfl
     rotate_left
     ·simp only [Act.put, List.setIfInBounds_toArray, List.set_cons_zero, List.set_cons_succ, i64_w, i32_w]
      rfl
     refine pure_ (i := 2) (N := some 51) (v := ?_) (a' := ?_) #[false, true, true, false, false, false, false, false, false, false, false, false, false, false, false, false, false, false, false] rfl rfl (any_of HT_.out (by kernel_rfl)) (fun _ _ _ h => h) (Or.inl ⟨by rfl, ?_⟩) ?_ ?_
     rotate_left
     ·intro w'
      go_simp; with_reducible rfl
     rotate_left
     ·simp only [Act.put, List.setIfInBounds_toArray, List.set_cons_zero, List.set_cons_succ, i64_w, i32_w]
      rfl
     refine take_ (i := 0) (N := some 49) (v := ?_) (a' := ?_) #[true, true, true, false, false, false, false, false, false, false, false, false, false, false, false, false, false, false, false] rfl rfl (take_ofW HT_.out HW_.out (by kernel_rfl)) (fun _ _ _ h => h) (Or.inl ⟨by rfl, ?_⟩) hHeld ?_ ?_
     rotate_left
     ·rintro w' ⟨s0, s1, s2, s3⟩
      go_simp; with_reducible rfl
     rotate_left
     ·simp only [Act.put, List.setIfInBounds_toArray, List.set_cons_zero, List.set_cons_succ, i64_w, i32_w]
      rfl
     refine one_ (i := 3) (N := some 52) #[true, true, true, true, false, false, false, false, false, false, false, false, false, false, false, false, false, false, false] rfl rfl (one_of HT_.out (by kernel_rfl)) (by decide) (fun K hK => ?_)
     refine goes_ Try.func56 (by kernel_rfl) rfl #[.int .u64 x0_4, .int .u64 a1] (by rfl) rfl rfl aA ?_
     with_reducible refine (fixq_MulUp.calls kj4 x0_4 a1 t249 t250 _ A39.out).mono ?_
     rintro e w48 ⟨rfl, hb⟩
     refine ⟨_, rfl, ?_⟩; have n0_ := Aside0.mk (blk_below (g := gb233) (o := .cells #[.int .u64 t231, .bool t232] 63 (0, 0)) kA hb); have n1_ := Aside0.mk (blk_below (g := gb238) (o := .cells #[.int .u64 t236, .bool t237] 63 (0, 0)) kA hb); have n2_ := Aside0.mk (blk_below (g := gb243) (o := .cells #[.int .u64 t241, .bool t242] 63 (0, 0)) kA hb); have n3_ := Aside0.mk (blk_below (g := gb248) (o := .cells #[.int .u64 t246, .bool t247] 63 (0, 0)) kA hb); have n4_ := Aside0.mk (below_step bA hb); clear BK233 BK238 BK243 BK248 HB; have BK233 := n0_; have BK238 := n1_; have BK243 := n2_; have BK248 := n3_; have HB := n4_; clear n0_ n1_ n2_ n3_ n4_; (try clear hb)
     refine hK.out _ _ ⟨(blk_cell BK233.out 0).trans rfl, (blk_cell BK233.out 1).trans rfl, (blk_cell BK243.out 0).trans rfl, (blk_cell BK243.out 1).trans rfl⟩ (fun hHeld => ?_)
     clear hK K
     refine norm_ (a' := ?_) ?_ ?_
     rotate_left
     ·show Act.put _ (some 52) _ = _
      simp only [Act.put, List.setIfInBounds_toArray, List.set_cons_zero, List.set_cons_succ, i64_w, i32_w]
      rfl
     refine pure_ (i := 4) (N := some 53) (v := ?_) (a' := ?_) #[true, true, true, true, true, false, false, false, false, false, false, false, false, false, false, false, false, false, false] rfl rfl (any_of HT_.out (by kernel_rfl)) (fun _ _ _ h => h) (Or.inl ⟨by rfl, ?_⟩) ?_ ?_
     rotate_left
     ·intro w'
      go_simp; with_reducible rfl
     rotate_left
     ·simp only [Act.put, List.setIfInBounds_toArray, List.set_cons_zero, List.set_cons_succ, i64_w, i32_w]
      rfl
     refine pure_ (i := 5) (N := some 54) (v := ?_) (a' := ?_) #[true, true, true, true, true, true, false, false, false, false, false, false, false, false, false, false, false, false, false] rfl rfl (any_of HT_.out (by kernel_rfl)) (fun _ _ _ h => h) (Or.inl ⟨by rfl, ?_⟩) ?_ ?_
     rotate_left
     ·intro w'
      go_simp; with_reducible rfl
     rotate_left
     ·simp only [Act.put, List.setIfInBounds_toArray, List.set_cons_zero, List.set_cons_succ, i64_w, i32_w]
      rfl
     refine one_ (i := 6) (N := some 55) #[true, true, true, true, true, true, true, false, false, false, false, false, false, false, false, false, false, false, false] rfl rfl (one_of HT_.out (by kernel_rfl)) (by decide) (fun K hK => ?_)
     refine goes_ Try.func49 (by kernel_rfl) rfl #[.int .u64 t249, .bool t250] (by rfl) rfl rfl aA ?_
     with_reducible refine (backfilllaw04_of.calls t249 t250 t251 t252 _ A40.out).mono ?_
     rintro e w49 ⟨rfl, hb⟩
     refine ⟨_, rfl, ?_⟩; have n0_ := Aside0.mk (blk_below (g := gb233) (o := .cells #[.int .u64 t231, .bool t232] 63 (0, 0)) kA hb); have n1_ := Aside0.mk (blk_below (g := gb238) (o := .cells #[.int .u64 t236, .bool t237] 63 (0, 0)) kA hb); have n2_ := Aside0.mk (blk_below (g := gb243) (o := .cells #[.int .u64 t241, .bool t242] 63 (0, 0)) kA hb); have n3_ := Aside0.mk (blk_below (g := gb248) (o := .cells #[.int .u64 t246, .bool t247] 63 (0, 0)) kA hb); have n4_ := Aside0.mk (below_step bA hb); clear BK233 BK238 BK243 BK248 HB; have BK233 := n0_; have BK238 := n1_; have BK243 := n2_; have BK248 := n3_; have HB := n4_; clear n0_ n1_ n2_ n3_ n4_; (try clear hb)
     refine hK.out _ _ ⟨(blk_cell BK233.out 0).trans rfl, (blk_cell BK233.out 1).trans rfl, (blk_cell BK243.out 0).trans rfl, (blk_cell BK243.out 1).trans rfl⟩ (fun hHeld => ?_)
     clear hK K
     refine norm_ (a' := ?_) ?_ ?_
     rotate_left
     ·show Act.put _ (some 55) _ = _
      simp only [Act.put, List.setIfInBounds_toArray, List.set_cons_zero, List.set_cons_succ, i64_w, i32_w]
      rfl
     refine one_ (i := 7) (N := some 56) #[true, true, true, true, true, true, true, true, false, false, false, false, false, false, false, false, false, false, false] rfl rfl (one_of HT_.out (by kernel_rfl)) (by decide) (fun K hK => ?_)
     refine goes_ Try.func68 (by kernel_rfl) rfl #[.agg #[.int .u64 t231, .bool t232], .agg #[.int .u64 t251, .bool t252]] (by rfl) rfl rfl aA ?_
     with_reducible refine (backfilllaw04_beside.calls t231 t232 t251 t252 true _ A41.out).mono ?_
     rintro e w50 ⟨rfl, hb⟩
     refine ⟨_, rfl, ?_⟩; have n0_ := Aside0.mk (blk_below (g := gb233) (o := .cells #[.int .u64 t231, .bool t232] 63 (0, 0)) kA hb); have n1_ := Aside0.mk (blk_below (g := gb238) (o := .cells #[.int .u64 t236, .bool t237] 63 (0, 0)) kA hb); have n2_ := Aside0.mk (blk_below (g := gb243) (o := .cells #[.int .u64 t241, .bool t242] 63 (0, 0)) kA hb); have n3_ := Aside0.mk (blk_below (g := gb248) (o := .cells #[.int .u64 t246, .bool t247] 63 (0, 0)) kA hb); have n4_ := Aside0.mk (below_step bA hb); clear BK233 BK238 BK243 BK248 HB; have BK233 := n0_; have BK238 := n1_; have BK243 := n2_; have BK248 := n3_; have HB := n4_; clear n0_ n1_ n2_ n3_ n4_; (try clear hb)
     refine hK.out _ _ ⟨(blk_cell BK233.out 0).trans rfl, (blk_cell BK233.out 1).trans rfl, (blk_cell BK243.out 0).trans rfl, (blk_cell BK243.out 1).trans rfl⟩ (fun hHeld => ?_)
     clear hK K
     refine norm_ (a' := ?_) ?_ ?_
     rotate_left
     ·show Act.put _ (some 56) _ = _
      simp only [Act.put, List.setIfInBounds_toArray, List.set_cons_zero, List.set_cons_succ, i64_w, i32_w]
      rfl
     refine pure_ (i := 8) (N := some 57) (v := ?_) (a' := ?_) #[true, true, true, true, true, true, true, true, true, false, false, false, false, false, false, false, false, false, false] rfl rfl (any_of HT_.out (by kernel_rfl)) (fun _ _ _ h => h) (Or.inl ⟨by rfl, ?_⟩) ?_ ?_
     rotate_left
     ·intro w'
      go_simp; with_reducible rfl
     rotate_left
     ·simp only [Act.put, List.setIfInBounds_toArray, List.set_cons_zero, List.set_cons_succ, i64_w, i32_w]
      rfl
     refine pure_ (i := 10) (N := some 59) (v := ?_) (a' := ?_) #[true, true, true, true, true, true, true, true, true, false, true, false, false, false, false, false, false, false, false] rfl rfl (any_of HT_.out (by kernel_rfl)) (fun _ _ _ h => h) (Or.inl ⟨by rfl, ?_⟩) ?_ ?_
     rotate_left
     ·intro w'
      go_simp; with_reducible rfl
     rotate_left
     ·simp only [Act.put, List.setIfInBounds_toArray, List.set_cons_zero, List.set_cons_succ, i64_w, i32_w]
      rfl
     refine pure_ (i := 11) (N := some 60) (v := ?_) (a' := ?_) #[true, true, true, true, true, true, true, true, true, false, true, true, false, false, false, false, false, false, false] rfl rfl (any_of HT_.out (by kernel_rfl)) (fun _ _ _ h => h) (Or.inl ⟨by rfl, ?_⟩) ?_ ?_
     rotate_left
     ·intro w'
      go_simp; with_reducible rfl
     rotate_left
     ·simp only [Act.put, List.setIfInBounds_toArray, List.set_cons_zero, List.set_cons_succ, i64_w, i32_w]
      rfl
     refine take_ (i := 9) (N := some 58) (v := ?_) (a' := ?_) #[true, true, true, true, true, true, true, true, true, true, true, true, false, false, false, false, false, false, false] rfl rfl (take_ofW HT_.out HW_.out (by kernel_rfl)) (fun _ _ _ h => h) (Or.inl ⟨by rfl, ?_⟩) hHeld ?_ ?_
     rotate_left
     ·rintro w' ⟨s0, s1, s2, s3⟩
      go_simp; with_reducible rfl
     rotate_left
     ·simp only [Act.put, List.setIfInBounds_toArray, List.set_cons_zero, List.set_cons_succ, i64_w, i32_w]
      rfl
     refine one_ (i := 12) (N := some 61) #[true, true, true, true, true, true, true, true, true, true, true, true, true, false, false, false, false, false, false] rfl rfl (one_of HT_.out (by kernel_rfl)) (by decide) (fun K hK => ?_)
     refine goes_ Try.func60 (by kernel_rfl) rfl #[.int .u64 x0_4, .int .u64 a1] (by rfl) rfl rfl aA ?_
     with_reducible refine (fixq_DivUp.calls kj4 x0_4 a1 t254 t255 _ A43.out).mono ?_
     rintro e w51 ⟨rfl, hb⟩
     refine ⟨_, rfl, ?_⟩; have n0_ := Aside0.mk (blk_below (g := gb233) (o := .cells #[.int .u64 t231, .bool t232] 63 (0, 0)) kA hb); have n1_ := Aside0.mk (blk_below (g := gb238) (o := .cells #[.int .u64 t236, .bool t237] 63 (0, 0)) kA hb); have n2_ := Aside0.mk (blk_below (g := gb243) (o := .cells #[.int .u64 t241, .bool t242] 63 (0, 0)) kA hb); have n3_ := Aside0.mk (blk_below (g := gb248) (o := .cells #[.int .u64 t246, .bool t247] 63 (0, 0)) kA hb); have n4_ := Aside0.mk (below_step bA hb); clear BK233 BK238 BK243 BK248 HB; have BK233 := n0_; have BK238 := n1_; have BK243 := n2_; have BK248 := n3_; have HB := n4_; clear n0_ n1_ n2_ n3_ n4_; (try clear hb)
     refine hK.out _ _ ⟨(blk_cell BK233.out 0).trans rfl, (blk_cell BK233.out 1).trans rfl, (blk_cell BK243.out 0).trans rfl, (blk_cell BK243.out 1).trans rfl⟩ (fun hHeld => ?_)
     clear hK K
     refine norm_ (a' := ?_) ?_ ?_
     rotate_left
     ·show Act.put _ (some 61) _ = _
      simp only [Act.put, List.setIfInBounds_toArray, List.set_cons_zero, List.set_cons_succ, i64_w, i32_w]
      rfl
     refine pure_ (i := 13) (N := some 62) (v := ?_) (a' := ?_) #[true, true, true, true, true, true, true, true, true, true, true, true, true, true, false, false, false, false, false] rfl rfl (any_of HT_.out (by kernel_rfl)) (fun _ _ _ h => h) (Or.inl ⟨by rfl, ?_⟩) ?_ ?_
     rotate_left
     ·intro w'
      go_simp; with_reducible rfl
     rotate_left
     ·simp only [Act.put, List.setIfInBounds_toArray, List.set_cons_zero, List.set_cons_succ, i64_w, i32_w]
      rfl
     refine pure_ (i := 14) (N := some 63) (v := ?_) (a' := ?_) #[true, true, true, true, true, true, true, true, true, true, true, true, true, true, true, false, false, false, false] rfl rfl (any_of HT_.out (by kernel_rfl)) (fun _ _ _ h => h) (Or.inl ⟨by rfl, ?_⟩) ?_ ?_
     rotate_left
     ·intro w'
      go_simp; with_reducible rfl
     rotate_left
     ·simp only [Act.put, List.setIfInBounds_toArray, List.set_cons_zero, List.set_cons_succ, i64_w, i32_w]
      rfl
     refine one_ (i := 15) (N := some 64) #[true, true, true, true, true, true, true, true, true, true, true, true, true, true, true, true, false, false, false] rfl rfl (one_of HT_.out (by kernel_rfl)) (by decide) (fun K hK => ?_)
     refine goes_ Try.func49 (by kernel_rfl) rfl #[.int .u64 t254, .bool t255] (by rfl) rfl rfl aA ?_
     with_reducible refine (backfilllaw04_of.calls t254 t255 t256 t257 _ A44.out).mono ?_
     rintro e w52 ⟨rfl, hb⟩
     refine ⟨_, rfl, ?_⟩; have n0_ := Aside0.mk (blk_below (g := gb233) (o := .cells #[.int .u64 t231, .bool t232] 63 (0, 0)) kA hb); have n1_ := Aside0.mk (blk_below (g := gb238) (o := .cells #[.int .u64 t236, .bool t237] 63 (0, 0)) kA hb); have n2_ := Aside0.mk (blk_below (g := gb243) (o := .cells #[.int .u64 t241, .bool t242] 63 (0, 0)) kA hb); have n3_ := Aside0.mk (blk_below (g := gb248) (o := .cells #[.int .u64 t246, .bool t247] 63 (0, 0)) kA hb); have n4_ := Aside0.mk (below_step bA hb); clear BK233 BK238 BK243 BK248 HB; have BK233 := n0_; have BK238 := n1_; have BK243 := n2_; have BK248 := n3_; have HB := n4_; clear n0_ n1_ n2_ n3_ n4_; (try clear hb)
     refine hK.out _ _ ⟨(blk_cell BK233.out 0).trans rfl, (blk_cell BK233.out 1).trans rfl, (blk_cell BK243.out 0).trans rfl, (blk_cell BK243.out 1).trans rfl⟩ (fun hHeld => ?_)
     clear hK K
     refine norm_ (a' := ?_) ?_ ?_
     rotate_left
     ·show Act.put _ (some 64) _ = _
      simp only [Act.put, List.setIfInBounds_toArray, List.set_cons_zero, List.set_cons_succ, i64_w, i32_w]
      rfl
     refine one_ (i := 16) (N := some 65) #[true, true, true, true, true, true, true, true, true, true, true, true, true, true, true, true, true, false, false] rfl rfl (one_of HT_.out (by kernel_rfl)) (by decide) (fun K hK => ?_)
     refine goes_ Try.func68 (by kernel_rfl) rfl #[.agg #[.int .u64 t241, .bool t242], .agg #[.int .u64 t256, .bool t257]] (by rfl) rfl rfl aA ?_
     with_reducible refine (backfilllaw04_beside.calls t241 t242 t256 t257 t258 _ A45.out).mono ?_
     rintro e w53 ⟨rfl, hb⟩
     refine ⟨_, rfl, ?_⟩; have n0_ := Aside0.mk (blk_below (g := gb233) (o := .cells #[.int .u64 t231, .bool t232] 63 (0, 0)) kA hb); have n1_ := Aside0.mk (blk_below (g := gb238) (o := .cells #[.int .u64 t236, .bool t237] 63 (0, 0)) kA hb); have n2_ := Aside0.mk (blk_below (g := gb243) (o := .cells #[.int .u64 t241, .bool t242] 63 (0, 0)) kA hb); have n3_ := Aside0.mk (blk_below (g := gb248) (o := .cells #[.int .u64 t246, .bool t247] 63 (0, 0)) kA hb); have n4_ := Aside0.mk (below_step bA hb); clear BK233 BK238 BK243 BK248 HB; have BK233 := n0_; have BK238 := n1_; have BK243 := n2_; have BK248 := n3_; have HB := n4_; clear n0_ n1_ n2_ n3_ n4_; (try clear hb)
     refine hK.out _ _ ⟨(blk_cell BK233.out 0).trans rfl, (blk_cell BK233.out 1).trans rfl, (blk_cell BK243.out 0).trans rfl, (blk_cell BK243.out 1).trans rfl⟩ (fun hHeld => ?_)
     clear hK K
     refine norm_ (a' := ?_) ?_ ?_
     rotate_left
     ·show Act.put _ (some 65) _ = _
      simp only [Act.put, List.setIfInBounds_toArray, List.set_cons_zero, List.set_cons_succ, i64_w, i32_w]
      rfl
     refine pure_ (i := 17) (N := some 66) (v := ?_) (a' := ?_) #[true, true, true, true, true, true, true, true, true, true, true, true, true, true, true, true, true, true, false] rfl rfl (any_of HT_.out (by kernel_rfl)) (fun _ _ _ h => h) (Or.inl ⟨by rfl, ?_⟩) ?_ ?_
     rotate_left
     ·intro w'
      go_simp; with_reducible rfl
     rotate_left
     ·simp only [Act.put, List.setIfInBounds_toArray, List.set_cons_zero, List.set_cons_succ, i64_w, i32_w]
      rfl
     refine pure_ (i := 18) (N := some 13) (v := ?_) (a' := ?_) #[true, true, true, true, true, true, true, true, true, true, true, true, true, true, true, true, true, true, true] rfl rfl (any_of HT_.out (by kernel_rfl)) (fun _ _ _ h => h) (Or.inl ⟨by rfl, ?_⟩) ?_ ?_
     rotate_left
     ·intro w'
      go_simp; with_reducible rfl
     rotate_left
     ·simp only [Act.put, List.setIfInBounds_toArray, List.set_cons_zero, List.set_cons_succ, i64_w, i32_w]
      rfl
     refine done_ (done_of HT_.out (by kernel_rfl)) ?_
     try go_wp2
     go_meet
     case rel => exact ⟨_, (t258), (by first | rfl | (simp; done) | (simp [*]; done)), H', ⟨by have := HJ4.out; first | omega | exact Nat.le_refl _⟩, ⟨by (with_reducible repeat (first | refine blk_drewN ?_ _ | refine blk_drew ?_ | refine blk_alloc ?_ _)); exact BK233.out⟩, ⟨by (with_reducible repeat (first | refine blk_drewN ?_ _ | refine blk_drew ?_ | refine blk_alloc ?_ _)); exact BK238.out⟩, ⟨by (with_reducible repeat (first | refine blk_drewN ?_ _ | refine blk_drew ?_ | refine blk_alloc ?_ _)); exact BK243.out⟩, ⟨by (with_reducible repeat (first | refine blk_drewN ?_ _ | refine blk_drew ?_ | refine blk_alloc ?_ _)); exact BK248.out⟩, ⟨bA⟩⟩
    ·replace c42 := Bool.eq_false_iff.mpr c42
     subst c42
     have H1 : (backfilllaw04_FixqLaws.j1 kj4 x0_4 a1 x2_4 t228 false t231 t232 t236 t237 t241 t242 t246 t247) = some r := by rw [if_neg (show ¬ (false = true) by decide)] at H; exact H
     clear H
     have H := H1
     clear H1
     have H' := Aside0.mk H
     clear H
     try go_wp2
     have n0_ : Aside0 (((w34.setCell ⟨gb248, 0, none⟩ (.int .u64 t246)).setCell ⟨gb248, 1, none⟩ (.bool t247)).heap[gb233]? = some (.cells #[.int .u64 t231, .bool t232] 63 (0, 0))) := ⟨by (with_reducible repeat (first | refine blk_drewN ?_ _ | refine blk_drew ?_ | refine blk_alloc ?_ _)); refine blk_far ?_ NB233_248.out _; (with_reducible repeat (first | refine blk_drewN ?_ _ | refine blk_drew ?_ | refine blk_alloc ?_ _)); refine blk_far ?_ NB233_248.out _; (with_reducible repeat (first | refine blk_drewN ?_ _ | refine blk_drew ?_ | refine blk_alloc ?_ _)); exact BK233.out⟩
     have n1_ : Aside0 (((w34.setCell ⟨gb248, 0, none⟩ (.int .u64 t246)).setCell ⟨gb248, 1, none⟩ (.bool t247)).heap[gb238]? = some (.cells #[.int .u64 t236, .bool t237] 63 (0, 0))) := ⟨by (with_reducible repeat (first | refine blk_drewN ?_ _ | refine blk_drew ?_ | refine blk_alloc ?_ _)); refine blk_far ?_ NB238_248.out _; (with_reducible repeat (first | refine blk_drewN ?_ _ | refine blk_drew ?_ | refine blk_alloc ?_ _)); refine blk_far ?_ NB238_248.out _; (with_reducible repeat (first | refine blk_drewN ?_ _ | refine blk_drew ?_ | refine blk_alloc ?_ _)); exact BK238.out⟩
     have n2_ : Aside0 (((w34.setCell ⟨gb248, 0, none⟩ (.int .u64 t246)).setCell ⟨gb248, 1, none⟩ (.bool t247)).heap[gb243]? = some (.cells #[.int .u64 t241, .bool t242] 63 (0, 0))) := ⟨by (with_reducible repeat (first | refine blk_drewN ?_ _ | refine blk_drew ?_ | refine blk_alloc ?_ _)); refine blk_far ?_ NB243_248.out _; (with_reducible repeat (first | refine blk_drewN ?_ _ | refine blk_drew ?_ | refine blk_alloc ?_ _)); refine blk_far ?_ NB243_248.out _; (with_reducible repeat (first | refine blk_drewN ?_ _ | refine blk_drew ?_ | refine blk_alloc ?_ _)); exact BK243.out⟩
     have n3_ : Aside0 (((w34.setCell ⟨gb248, 0, none⟩ (.int .u64 t246)).setCell ⟨gb248, 1, none⟩ (.bool t247)).heap[gb248]? = some (.cells #[.int .u64 t246, .bool t247] 63 (0, 0))) := ⟨by (with_reducible repeat (first | refine blk_drewN ?_ _ | refine blk_drew ?_ | refine blk_alloc ?_ _)); refine blk_put (cs := #[.int .u64 t246, .bool false]) ?_ 1 _ rfl; (with_reducible repeat (first | refine blk_drewN ?_ _ | refine blk_drew ?_ | refine blk_alloc ?_ _)); refine blk_put (cs := #[.int .u64 0, .bool false]) ?_ 0 _ rfl; (with_reducible repeat (first | refine blk_drewN ?_ _ | refine blk_drew ?_ | refine blk_alloc ?_ _)); exact BK248.out⟩
     have n4_ : Aside0 (Below w.heap.size w ((w34.setCell ⟨gb248, 0, none⟩ (.int .u64 t246)).setCell ⟨gb248, 1, none⟩ (.bool t247))) := ⟨bA⟩
     (try clear BK233); (try clear BK238); (try clear BK243); (try clear BK248); (try clear HB)
     generalize ((w34.setCell ⟨gb248, 0, none⟩ (.int .u64 t246)).setCell ⟨gb248, 1, none⟩ (.bool t247)) = w54 at n0_ n1_ n2_ n3_ n4_ ⊢
     have BK233 := n0_; have BK238 := n1_; have BK243 := n2_; have BK248 := n3_; have HB := n4_; clear n0_ n1_ n2_ n3_ n4_; have n0_ := Aside0.mk (blk_drew BK233.out); have n1_ := Aside0.mk (blk_drew BK238.out); have n2_ := Aside0.mk (blk_drew BK243.out); have n3_ := Aside0.mk (blk_drew BK248.out); have n4_ := Aside0.mk (below_drew1 HB.out); clear BK233 BK238 BK243 BK248 HB; have BK233 := n0_; have BK238 := n1_; have BK243 := n2_; have BK248 := n3_; have HB := n4_; clear n0_ n1_ n2_ n3_ n4_
     refine start_ (n := 19) (S := fun w' => w'.cell? ⟨gb233, 0, none⟩ = some (.int .u64 t231) ∧ w'.cell? ⟨gb233, 1, none⟩ = some (.bool t232)) (ds := []) #[false, false, false, false, false, false, false, false, false, false, false, false, false, false, false, false, false, false, false] (by kernel_rfl) rfl rfl ⟨(blk_cell BK233.out 0).trans rfl, (blk_cell BK233.out 1).trans rfl⟩ (fun hHeld => ?_); refine with_tabW backfilllaw04_FixqLaws.tab10 backfilllaw04_FixqLaws.bits10 (fun HT_ HW_ => ?_)
     generalize w54.drew = w55 at BK233 BK238 BK243 BK248 HB hHeld ⊢
     refine pure_ (i := 1) (N := some 50) (v := ?_) (a' := ?_) #[false, true, false, false, false, false, false, false, false, false, false, false, false, false, false, false, false, false, false] rfl rfl (any_of HT_.out (by kernel_rfl)) (fun _ _ _ h => h) (Or.inl ⟨by rfl, ?_⟩) ?_ ?_
     rotate_left
     ·intro w'
      go_simp; with_reducible rfl
     rotate_left
     ·simp only [Act.put, List.setIfInBounds_toArray, List.set_cons_zero, List.set_cons_succ, i64_w, i32_w]
      rfl
     refine pure_ (i := 2) (N := some 51) (v := ?_) (a' := ?_) #[false, true, true, false, false, false, false, false, false, false, false, false, false, false, false, false, false, false, false] rfl rfl (any_of HT_.out (by kernel_rfl)) (fun _ _ _ h => h) (Or.inl ⟨by rfl, ?_⟩) ?_ ?_
     rotate_left
     ·intro w'
      go_simp; with_reducible rfl
     rotate_left
     ·simp only [Act.put, List.setIfInBounds_toArray, List.set_cons_zero, List.set_cons_succ, i64_w, i32_w]
      rfl
     refine take_ (i := 0) (N := some 49) (v := ?_) (a' := ?_) #[true, true, true, false, false, false, false, false, false, false, false, false, false, false, false, false, false, false, false] rfl rfl (take_ofW HT_.out HW_.out (by kernel_rfl)) (fun _ _ _ h => h) (Or.inl ⟨by rfl, ?_⟩) hHeld ?_ ?_
     rotate_left
     ·rintro w' ⟨s0, s1⟩
      go_simp; with_reducible rfl
     rotate_left
     ·simp only [Act.put, List.setIfInBounds_toArray, List.set_cons_zero, List.set_cons_succ, i64_w, i32_w]
      rfl
     refine one_ (i := 3) (N := some 52) #[true, true, true, true, false, false, false, false, false, false, false, false, false, false, false, false, false, false, false] rfl rfl (one_of HT_.out (by kernel_rfl)) (by decide) (fun K hK => ?_)
     refine goes_ Try.func56 (by kernel_rfl) rfl #[.int .u64 x0_4, .int .u64 a1] (by rfl) rfl rfl aA ?_
     with_reducible refine (fixq_MulUp.calls kj4 x0_4 a1 t249 t250 _ A39.out).mono ?_
     rintro e w56 ⟨rfl, hb⟩
     refine ⟨_, rfl, ?_⟩; have n0_ := Aside0.mk (blk_below (g := gb233) (o := .cells #[.int .u64 t231, .bool t232] 63 (0, 0)) kA hb); have n1_ := Aside0.mk (blk_below (g := gb238) (o := .cells #[.int .u64 t236, .bool t237] 63 (0, 0)) kA hb); have n2_ := Aside0.mk (blk_below (g := gb243) (o := .cells #[.int .u64 t241, .bool t242] 63 (0, 0)) kA hb); have n3_ := Aside0.mk (blk_below (g := gb248) (o := .cells #[.int .u64 t246, .bool t247] 63 (0, 0)) kA hb); have n4_ := Aside0.mk (below_step bA hb); clear BK233 BK238 BK243 BK248 HB; have BK233 := n0_; have BK238 := n1_; have BK243 := n2_; have BK248 := n3_; have HB := n4_; clear n0_ n1_ n2_ n3_ n4_; (try clear hb)
     refine hK.out _ _ ⟨(blk_cell BK233.out 0).trans rfl, (blk_cell BK233.out 1).trans rfl⟩ (fun hHeld => ?_)
     clear hK K
     refine norm_ (a' := ?_) ?_ ?_
     rotate_left
     ·show Act.put _ (some 52) _ = _
      simp only [Act.put, List.setIfInBounds_toArray, List.set_cons_zero, List.set_cons_succ, i64_w, i32_w]
      rfl
     refine pure_ (i := 4) (N := some 53) (v := ?_) (a' := ?_) #[true, true, true, true, true, false, false, false, false, false, false, false, false, false, false, false, false, false, false] rfl rfl (any_of HT_.out (by kernel_rfl)) (fun _ _ _ h => h) (Or.inl ⟨by rfl, ?_⟩) ?_ ?_
     rotate_left
     ·intro w'
      go_simp; with_reducible rfl
     rotate_left
     ·simp only [Act.put, List.setIfInBounds_toArray, List.set_cons_zero, List.set_cons_succ, i64_w, i32_w]
      rfl
     refine pure_ (i := 5) (N := some 54) (v := ?_) (a' := ?_) #[true, true, true, true, true, true, false, false, false, false, false, false, false, false, false, false, false, false, false] rfl rfl (any_of HT_.out (by kernel_rfl)) (fun _ _ _ h => h) (Or.inl ⟨by rfl, ?_⟩) ?_ ?_
     rotate_left
     ·intro w'
      go_simp; with_reducible rfl
     rotate_left
     ·simp only [Act.put, List.setIfInBounds_toArray, List.set_cons_zero, List.set_cons_succ, i64_w, i32_w]
      rfl
     refine one_ (i := 6) (N := some 55) #[true, true, true, true, true, true, true, false, false, false, false, false, false, false, false, false, false, false, false] rfl rfl (one_of HT_.out (by kernel_rfl)) (by decide) (fun K hK => ?_)
     refine goes_ Try.func49 (by kernel_rfl) rfl #[.int .u64 t249, .bool t250] (by rfl) rfl rfl aA ?_
     with_reducible refine (backfilllaw04_of.calls t249 t250 t251 t252 _ A40.out).mono ?_
     rintro e w57 ⟨rfl, hb⟩
     refine ⟨_, rfl, ?_⟩; have n0_ := Aside0.mk (blk_below (g := gb233) (o := .cells #[.int .u64 t231, .bool t232] 63 (0, 0)) kA hb); have n1_ := Aside0.mk (blk_below (g := gb238) (o := .cells #[.int .u64 t236, .bool t237] 63 (0, 0)) kA hb); have n2_ := Aside0.mk (blk_below (g := gb243) (o := .cells #[.int .u64 t241, .bool t242] 63 (0, 0)) kA hb); have n3_ := Aside0.mk (blk_below (g := gb248) (o := .cells #[.int .u64 t246, .bool t247] 63 (0, 0)) kA hb); have n4_ := Aside0.mk (below_step bA hb); clear BK233 BK238 BK243 BK248 HB; have BK233 := n0_; have BK238 := n1_; have BK243 := n2_; have BK248 := n3_; have HB := n4_; clear n0_ n1_ n2_ n3_ n4_; (try clear hb)
     refine hK.out _ _ ⟨(blk_cell BK233.out 0).trans rfl, (blk_cell BK233.out 1).trans rfl⟩ (fun hHeld => ?_)
     clear hK K
     refine norm_ (a' := ?_) ?_ ?_
     rotate_left
     ·show Act.put _ (some 55) _ = _
      simp only [Act.put, List.setIfInBounds_toArray, List.set_cons_zero, List.set_cons_succ, i64_w, i32_w]
      rfl
     refine one_ (i := 7) (N := some 56) #[true, true, true, true, true, true, true, true, false, false, false, false, false, false, false, false, false, false, false] rfl rfl (one_of HT_.out (by kernel_rfl)) (by decide) (fun K hK => ?_)
     refine goes_ Try.func68 (by kernel_rfl) rfl #[.agg #[.int .u64 t231, .bool t232], .agg #[.int .u64 t251, .bool t252]] (by rfl) rfl rfl aA ?_
     with_reducible refine (backfilllaw04_beside.calls t231 t232 t251 t252 false _ A41.out).mono ?_
     rintro e w58 ⟨rfl, hb⟩
     refine ⟨_, rfl, ?_⟩; have n0_ := Aside0.mk (blk_below (g := gb233) (o := .cells #[.int .u64 t231, .bool t232] 63 (0, 0)) kA hb); have n1_ := Aside0.mk (blk_below (g := gb238) (o := .cells #[.int .u64 t236, .bool t237] 63 (0, 0)) kA hb); have n2_ := Aside0.mk (blk_below (g := gb243) (o := .cells #[.int .u64 t241, .bool t242] 63 (0, 0)) kA hb); have n3_ := Aside0.mk (blk_below (g := gb248) (o := .cells #[.int .u64 t246, .bool t247] 63 (0, 0)) kA hb); have n4_ := Aside0.mk (below_step bA hb); clear BK233 BK238 BK243 BK248 HB; have BK233 := n0_; have BK238 := n1_; have BK243 := n2_; have BK248 := n3_; have HB := n4_; clear n0_ n1_ n2_ n3_ n4_; (try clear hb)
     refine hK.out _ _ ⟨(blk_cell BK233.out 0).trans rfl, (blk_cell BK233.out 1).trans rfl⟩ (fun hHeld => ?_)
     clear hK K
     refine norm_ (a' := ?_) ?_ ?_
     rotate_left
     ·show Act.put _ (some 56) _ = _
      simp only [Act.put, List.setIfInBounds_toArray, List.set_cons_zero, List.set_cons_succ, i64_w, i32_w]
      rfl
     refine pure_ (i := 8) (N := some 57) (v := ?_) (a' := ?_) #[true, true, true, true, true, true, true, true, true, false, false, false, false, false, false, false, false, false, false] rfl rfl (any_of HT_.out (by kernel_rfl)) (fun _ _ _ h => h) (Or.inl ⟨by rfl, ?_⟩) ?_ ?_
     rotate_left
     ·intro w'
      go_simp; with_reducible rfl
     rotate_left
     ·simp only [Act.put, List.setIfInBounds_toArray, List.set_cons_zero, List.set_cons_succ, i64_w, i32_w]
      rfl
     refine pure_ (i := 9) (N := some 58) (v := undef) (a' := ?_) #[true, true, true, true, true, true, true, true, true, true, false, false, false, false, false, false, false, false, false] rfl rfl (any_of HT_.out (by kernel_rfl)) (fun _ _ _ h => h) (Or.inr ⟨by rfl, rfl⟩) ?_ ?_
     rotate_left
     ·simp only [Act.put, List.setIfInBounds_toArray, List.set_cons_zero, List.set_cons_succ, i64_w, i32_w]
      rfl
     refine pure_ (i := 10) (N := some 59) (v := undef) (a' := ?_) #[true, true, true, true, true, true, true, true, true, true, true, false, false, false, false, false, false, false, false] rfl rfl (any_of HT_.out (by kernel_rfl)) (fun _ _ _ h => h) (Or.inr ⟨by rfl, rfl⟩) ?_ ?_
     rotate_left
     ·simp only [Act.put, List.setIfInBounds_toArray, List.set_cons_zero, List.set_cons_succ, i64_w, i32_w]
      rfl
     refine pure_ (i := 11) (N := some 60) (v := undef) (a' := ?_) #[true, true, true, true, true, true, true, true, true, true, true, true, false, false, false, false, false, false, false] rfl rfl (any_of HT_.out (by kernel_rfl)) (fun _ _ _ h => h) (Or.inr ⟨by rfl, rfl⟩) ?_ ?_
     rotate_left
     ·simp only [Act.put, List.setIfInBounds_toArray, List.set_cons_zero, List.set_cons_succ, i64_w, i32_w]
      rfl
     refine pure_ (i := 12) (N := some 61) (v := undef) (a' := ?_) #[true, true, true, true, true, true, true, true, true, true, true, true, true, false, false, false, false, false, false] rfl rfl (any_of HT_.out (by kernel_rfl)) (fun _ _ _ h => h) (Or.inr ⟨by rfl, rfl⟩) ?_ ?_
     rotate_left
     ·simp only [Act.put, List.setIfInBounds_toArray, List.set_cons_zero, List.set_cons_succ, i64_w, i32_w]
      rfl
     refine pure_ (i := 13) (N := some 62) (v := undef) (a' := ?_) #[true, true, true, true, true, true, true, true, true, true, true, true, true, true, false, false, false, false, false] rfl rfl (any_of HT_.out (by kernel_rfl)) (fun _ _ _ h => h) (Or.inr ⟨by rfl, rfl⟩) ?_ ?_
     rotate_left
     ·simp only [Act.put, List.setIfInBounds_toArray, List.set_cons_zero, List.set_cons_succ, i64_w, i32_w]
      rfl
     refine pure_ (i := 14) (N := some 63) (v := undef) (a' := ?_) #[true, true, true, true, true, true, true, true, true, true, true, true, true, true, true, false, false, false, false] rfl rfl (any_of HT_.out (by kernel_rfl)) (fun _ _ _ h => h) (Or.inr ⟨by rfl, rfl⟩) ?_ ?_
     rotate_left
     ·simp only [Act.put, List.setIfInBounds_toArray, List.set_cons_zero, List.set_cons_succ, i64_w, i32_w]
      rfl
     refine pure_ (i := 15) (N := some 64) (v := undef) (a' := ?_) #[true, true, true, true, true, true, true, true, true, true, true, true, true, true, true, true, false, false, false] rfl rfl (any_of HT_.out (by kernel_rfl)) (fun _ _ _ h => h) (Or.inr ⟨by rfl, rfl⟩) ?_ ?_
     rotate_left
     ·simp only [Act.put, List.setIfInBounds_toArray, List.set_cons_zero, List.set_cons_succ, i64_w, i32_w]
      rfl
     refine pure_ (i := 16) (N := some 65) (v := undef) (a' := ?_) #[true, true, true, true, true, true, true, true, true, true, true, true, true, true, true, true, true, false, false] rfl rfl (any_of HT_.out (by kernel_rfl)) (fun _ _ _ h => h) (Or.inr ⟨by rfl, rfl⟩) ?_ ?_
     rotate_left
     ·simp only [Act.put, List.setIfInBounds_toArray, List.set_cons_zero, List.set_cons_succ, i64_w, i32_w]
      rfl
     refine pure_ (i := 17) (N := some 66) (v := ?_) (a' := ?_) #[true, true, true, true, true, true, true, true, true, true, true, true, true, true, true, true, true, true, false] rfl rfl (any_of HT_.out (by kernel_rfl)) (fun _ _ _ h => h) (Or.inl ⟨by rfl, ?_⟩) ?_ ?_
     rotate_left
     ·intro w'
      go_simp; with_reducible rfl
     rotate_left
     ·simp only [Act.put, List.setIfInBounds_toArray, List.set_cons_zero, List.set_cons_succ, i64_w, i32_w]
      rfl
     refine pure_ (i := 18) (N := some 13) (v := ?_) (a' := ?_) #[true, true, true, true, true, true, true, true, true, true, true, true, true, true, true, true, true, true, true] rfl rfl (any_of HT_.out (by kernel_rfl)) (fun _ _ _ h => h) (Or.inl ⟨by rfl, ?_⟩) ?_ ?_
     rotate_left
     ·intro w'
      go_simp; with_reducible rfl
     rotate_left
     ·simp only [Act.put, List.setIfInBounds_toArray, List.set_cons_zero, List.set_cons_succ, i64_w, i32_w]
      rfl
     refine done_ (done_of HT_.out (by kernel_rfl)) ?_
     try go_wp2
     go_meet
     case rel => exact ⟨_, (false), (by first | rfl | (simp; done) | (simp [*]; done)), H', ⟨by have := HJ4.out; first | omega | exact Nat.le_refl _⟩, ⟨by (with_reducible repeat (first | refine blk_drewN ?_ _ | refine blk_drew ?_ | refine blk_alloc ?_ _)); exact BK233.out⟩, ⟨by (with_reducible repeat (first | refine blk_drewN ?_ _ | refine blk_drew ?_ | refine blk_alloc ?_ _)); exact BK238.out⟩, ⟨by (with_reducible repeat (first | refine blk_drewN ?_ _ | refine blk_drew ?_ | refine blk_alloc ?_ _)); exact BK243.out⟩, ⟨by (with_reducible repeat (first | refine blk_drewN ?_ _ | refine blk_drew ?_ | refine blk_alloc ?_ _)); exact BK248.out⟩, ⟨bA⟩⟩
   case rest =>
    clear HC16
    try clear p2
    try clear c4
    try clear c5
    try clear c6
    try clear c42
    try clear c49
    try clear c56
    obtain ⟨kq, x13_15, rfl, HA, HJ15, BK233, BK238, BK243, BK248, HB⟩ := hcut
    cases kq with
    | zero => exact absurd HA.out (by simp [backfilllaw04_FixqLaws.j1])
    | succ kj15 =>
     have H := HA.out
     clear HA
     simp only [backfilllaw04_FixqLaws.j1] at H
     have HC59 := Aside0.mk H
     clear H
     go_upto_region 11 with (fail)
     go_cut [14] (fun v14 wc => ∃ (kq : Nat) (x14_58 : Bool), v14 = .bool x14_58 ∧ Aside0 (backfilllaw04_FixqLaws.j2 kq x0_4 a1 t228 x13_15 x14_58 t231 t232 = some r) ∧ Aside0 (kq ≤ kj15) ∧ Aside0 (wc.heap[gb233]? = some (.cells #[.int .u64 t231, .bool t232] 63 (0, 0))) ∧ Aside0 (wc.heap[gb238]? = some (.cells #[.int .u64 t236, .bool t237] 63 (0, 0))) ∧ Aside0 (wc.heap[gb243]? = some (.cells #[.int .u64 t241, .bool t242] 63 (0, 0))) ∧ Aside0 (wc.heap[gb248]? = some (.cells #[.int .u64 t246, .bool t247] 63 (0, 0))) ∧ Aside0 (Below w.heap.size w wc))
     case first =>
      have H := HC59.out
      clear HC59
      by_cases c60 : t231 ≤ t236
      ·rw [if_pos c60] at H
       have c60b0 : decide (t231 ≤ t236) = true := decide_eq_true c60
       clear c60
       (first | rw [c60b0] | (simp only [i64_w, i32_w]; rw [c60b0]) | skip)
       by_cases c61 : t241 ≤ t246
       ·rw [if_pos c61] at H
        have c61b0 : decide (t241 ≤ t246) = true := decide_eq_true c61
        clear c61; replace H := Option.bind_eq_some_iff.mp H; obtain ⟨t259, A620, H⟩ := H; replace H : ((fixq_Part.f x2_4 a1).bind fun t260 => (if t259 ≤ t260 then ((fixq_Part.f a1 x0_4).bind fun t261 => ((fixq_Part.f a1 x2_4).bind fun t262 => (backfilllaw04_FixqLaws.j2 kj15 x0_4 a1 t228 x13_15 (decide (t261 ≤ t262)) t231 t232))) else (backfilllaw04_FixqLaws.j2 kj15 x0_4 a1 t228 x13_15 false t231 t232))) = some r := H; have A62 := Aside0.mk A620; clear A620; replace H := Option.bind_eq_some_iff.mp H; obtain ⟨t260, A630, H⟩ := H; replace H : (if t259 ≤ t260 then ((fixq_Part.f a1 x0_4).bind fun t261 => ((fixq_Part.f a1 x2_4).bind fun t262 => (backfilllaw04_FixqLaws.j2 kj15 x0_4 a1 t228 x13_15 (decide (t261 ≤ t262)) t231 t232))) else (backfilllaw04_FixqLaws.j2 kj15 x0_4 a1 t228 x13_15 false t231 t232)) = some r := H; have A63 := Aside0.mk A630; clear A630
        by_cases c64 : t259 ≤ t260
        ·rw [if_pos c64] at H
         have c64b0 : decide (t259 ≤ t260) = true := decide_eq_true c64
         clear c64; replace H := Option.bind_eq_some_iff.mp H; obtain ⟨t261, A650, H⟩ := H; replace H : ((fixq_Part.f a1 x2_4).bind fun t262 => (backfilllaw04_FixqLaws.j2 kj15 x0_4 a1 t228 x13_15 (decide (t261 ≤ t262)) t231 t232)) = some r := H; have A65 := Aside0.mk A650; clear A650; replace H := Option.bind_eq_some_iff.mp H; obtain ⟨t262, A660, H⟩ := H; replace H : (backfilllaw04_FixqLaws.j2 kj15 x0_4 a1 t228 x13_15 (decide (t261 ≤ t262)) t231 t232) = some r := H; have A66 := Aside0.mk A660; clear A660
         have H' := Aside0.mk H
         clear H
         have hnb67 := NB233_238.out
         have hnc67 := NB238_233.out
         have hnb68 := NB233_243.out
         have hnc68 := NB243_233.out
         have hnb69 := NB233_248.out
         have hnc69 := NB248_233.out
         have hcz70_0 : wc.cell? ⟨gb233, 0, none⟩ = some (.int .u64 t231) := (blk_cell BK233.out 0).trans rfl
         have hcz70_1 : wc.cell? ⟨gb233, 1, none⟩ = some (.bool t232) := (blk_cell BK233.out 1).trans rfl
         have hfz70_0 := blk_frozen BK233.out 0
         have hfz70_1 := blk_frozen BK233.out 1
         have hnb71 := NB238_243.out
         have hnc71 := NB243_238.out
         have hnb72 := NB238_248.out
         have hnc72 := NB248_238.out
         have hcz73_0 : wc.cell? ⟨gb238, 0, none⟩ = some (.int .u64 t236) := (blk_cell BK238.out 0).trans rfl
         have hcz73_1 : wc.cell? ⟨gb238, 1, none⟩ = some (.bool t237) := (blk_cell BK238.out 1).trans rfl
         have hfz73_0 := blk_frozen BK238.out 0
         have hfz73_1 := blk_frozen BK238.out 1
         have hnb74 := NB243_248.out
         have hnc74 := NB248_243.out
         have hcz75_0 : wc.cell? ⟨gb243, 0, none⟩ = some (.int .u64 t241) := (blk_cell BK243.out 0).trans rfl
         have hcz75_1 : wc.cell? ⟨gb243, 1, none⟩ = some (.bool t242) := (blk_cell BK243.out 1).trans rfl
         have hfz75_0 := blk_frozen BK243.out 0
         have hfz75_1 := blk_frozen BK243.out 1
         have hcz76_0 : wc.cell? ⟨gb248, 0, none⟩ = some (.int .u64 t246) := (blk_cell BK248.out 0).trans rfl
         have hcz76_1 : wc.cell? ⟨gb248, 1, none⟩ = some (.bool t247) := (blk_cell BK248.out 1).trans rfl
         have hfz76_0 := blk_frozen BK248.out 0
         have hfz76_1 := blk_frozen BK248.out 1
         go_wp2_with (first | (go_at_call 66; (with_reducible refine (fixq_Part.calls x0_4 a1 t259 _ A62.out).mono ?_); rintro e w77 ⟨rfl, hb⟩; have n0_ := Aside0.mk (blk_below (g := gb233) (o := .cells #[.int .u64 t231, .bool t232] 63 (0, 0)) kA hb); have n1_ := Aside0.mk (blk_below (g := gb238) (o := .cells #[.int .u64 t236, .bool t237] 63 (0, 0)) kA hb); have n2_ := Aside0.mk (blk_below (g := gb243) (o := .cells #[.int .u64 t241, .bool t242] 63 (0, 0)) kA hb); have n3_ := Aside0.mk (blk_below (g := gb248) (o := .cells #[.int .u64 t246, .bool t247] 63 (0, 0)) kA hb); have n4_ := Aside0.mk (below_step bA hb); clear BK233 BK238 BK243 BK248 HB; have BK233 := n0_; have BK238 := n1_; have BK243 := n2_; have BK248 := n3_; have HB := n4_; clear n0_ n1_ n2_ n3_ n4_; (try clear hb)) | (go_at_call 66; (with_reducible refine (fixq_Part.calls x2_4 a1 t260 _ A63.out).mono ?_); rintro e w78 ⟨rfl, hb⟩; have n0_ := Aside0.mk (blk_below (g := gb233) (o := .cells #[.int .u64 t231, .bool t232] 63 (0, 0)) kA hb); have n1_ := Aside0.mk (blk_below (g := gb238) (o := .cells #[.int .u64 t236, .bool t237] 63 (0, 0)) kA hb); have n2_ := Aside0.mk (blk_below (g := gb243) (o := .cells #[.int .u64 t241, .bool t242] 63 (0, 0)) kA hb); have n3_ := Aside0.mk (blk_below (g := gb248) (o := .cells #[.int .u64 t246, .bool t247] 63 (0, 0)) kA hb); have n4_ := Aside0.mk (below_step bA hb); clear BK233 BK238 BK243 BK248 HB; have BK233 := n0_; have BK238 := n1_; have BK243 := n2_; have BK248 := n3_; have HB := n4_; clear n0_ n1_ n2_ n3_ n4_; (try clear hb)) | (go_at_call 66; (with_reducible refine (fixq_Part.calls a1 x0_4 t261 _ A65.out).mono ?_); rintro e w79 ⟨rfl, hb⟩; have n0_ := Aside0.mk (blk_below (g := gb233) (o := .cells #[.int .u64 t231, .bool t232] 63 (0, 0)) kA hb); have n1_ := Aside0.mk (blk_below (g := gb238) (o := .cells #[.int .u64 t236, .bool t237] 63 (0, 0)) kA hb); have n2_ := Aside0.mk (blk_below (g := gb243) (o := .cells #[.int .u64 t241, .bool t242] 63 (0, 0)) kA hb); have n3_ := Aside0.mk (blk_below (g := gb248) (o := .cells #[.int .u64 t246, .bool t247] 63 (0, 0)) kA hb); have n4_ := Aside0.mk (below_step bA hb); clear BK233 BK238 BK243 BK248 HB; have BK233 := n0_; have BK238 := n1_; have BK243 := n2_; have BK248 := n3_; have HB := n4_; clear n0_ n1_ n2_ n3_ n4_; (try clear hb)) | (go_at_call 66; (with_reducible refine (fixq_Part.calls a1 x2_4 t262 _ A66.out).mono ?_); rintro e w80 ⟨rfl, hb⟩; have n0_ := Aside0.mk (blk_below (g := gb233) (o := .cells #[.int .u64 t231, .bool t232] 63 (0, 0)) kA hb); have n1_ := Aside0.mk (blk_below (g := gb238) (o := .cells #[.int .u64 t236, .bool t237] 63 (0, 0)) kA hb); have n2_ := Aside0.mk (blk_below (g := gb243) (o := .cells #[.int .u64 t241, .bool t242] 63 (0, 0)) kA hb); have n3_ := Aside0.mk (blk_below (g := gb248) (o := .cells #[.int .u64 t246, .bool t247] 63 (0, 0)) kA hb); have n4_ := Aside0.mk (below_step bA hb); clear BK233 BK238 BK243 BK248 HB; have BK233 := n0_; have BK238 := n1_; have BK243 := n2_; have BK248 := n3_; have HB := n4_; clear n0_ n1_ n2_ n3_ n4_; (try clear hb)))
         go_meet
         case rel => exact ⟨_, (decide (t261 ≤ t262)), (by first | rfl | (simp; done) | (simp [*]; done)), H', ⟨by have := HJ4.out; have := HJ15.out; first | omega | exact Nat.le_refl _⟩, ⟨by (with_reducible repeat (first | refine blk_drewN ?_ _ | refine blk_drew ?_ | refine blk_alloc ?_ _)); exact BK233.out⟩, ⟨by (with_reducible repeat (first | refine blk_drewN ?_ _ | refine blk_drew ?_ | refine blk_alloc ?_ _)); exact BK238.out⟩, ⟨by (with_reducible repeat (first | refine blk_drewN ?_ _ | refine blk_drew ?_ | refine blk_alloc ?_ _)); exact BK243.out⟩, ⟨by (with_reducible repeat (first | refine blk_drewN ?_ _ | refine blk_drew ?_ | refine blk_alloc ?_ _)); exact BK248.out⟩, ⟨bA⟩⟩
        ·rw [if_neg c64] at H
         have c64b0 : decide (t259 ≤ t260) = false := decide_eq_false c64
         clear c64
         have H' := Aside0.mk H
         clear H
         have hnb81 := NB233_238.out
         have hnc81 := NB238_233.out
         have hnb82 := NB233_243.out
         have hnc82 := NB243_233.out
         have hnb83 := NB233_248.out
         have hnc83 := NB248_233.out
         have hcz84_0 : wc.cell? ⟨gb233, 0, none⟩ = some (.int .u64 t231) := (blk_cell BK233.out 0).trans rfl
         have hcz84_1 : wc.cell? ⟨gb233, 1, none⟩ = some (.bool t232) := (blk_cell BK233.out 1).trans rfl
         have hfz84_0 := blk_frozen BK233.out 0
         have hfz84_1 := blk_frozen BK233.out 1
         have hnb85 := NB238_243.out
         have hnc85 := NB243_238.out
         have hnb86 := NB238_248.out
         have hnc86 := NB248_238.out
         have hcz87_0 : wc.cell? ⟨gb238, 0, none⟩ = some (.int .u64 t236) := (blk_cell BK238.out 0).trans rfl
         have hcz87_1 : wc.cell? ⟨gb238, 1, none⟩ = some (.bool t237) := (blk_cell BK238.out 1).trans rfl
         have hfz87_0 := blk_frozen BK238.out 0
         have hfz87_1 := blk_frozen BK238.out 1
         have hnb88 := NB243_248.out
         have hnc88 := NB248_243.out
         have hcz89_0 : wc.cell? ⟨gb243, 0, none⟩ = some (.int .u64 t241) := (blk_cell BK243.out 0).trans rfl
         have hcz89_1 : wc.cell? ⟨gb243, 1, none⟩ = some (.bool t242) := (blk_cell BK243.out 1).trans rfl
         have hfz89_0 := blk_frozen BK243.out 0
         have hfz89_1 := blk_frozen BK243.out 1
         have hcz90_0 : wc.cell? ⟨gb248, 0, none⟩ = some (.int .u64 t246) := (blk_cell BK248.out 0).trans rfl
         have hcz90_1 : wc.cell? ⟨gb248, 1, none⟩ = some (.bool t247) := (blk_cell BK248.out 1).trans rfl
         have hfz90_0 := blk_frozen BK248.out 0
         have hfz90_1 := blk_frozen BK248.out 1
         go_wp2_with (first | (go_at_call 66; (with_reducible refine (fixq_Part.calls x0_4 a1 t259 _ A62.out).mono ?_); rintro e w91 ⟨rfl, hb⟩; have n0_ := Aside0.mk (blk_below (g := gb233) (o := .cells #[.int .u64 t231, .bool t232] 63 (0, 0)) kA hb); have n1_ := Aside0.mk (blk_below (g := gb238) (o := .cells #[.int .u64 t236, .bool t237] 63 (0, 0)) kA hb); have n2_ := Aside0.mk (blk_below (g := gb243) (o := .cells #[.int .u64 t241, .bool t242] 63 (0, 0)) kA hb); have n3_ := Aside0.mk (blk_below (g := gb248) (o := .cells #[.int .u64 t246, .bool t247] 63 (0, 0)) kA hb); have n4_ := Aside0.mk (below_step bA hb); clear BK233 BK238 BK243 BK248 HB; have BK233 := n0_; have BK238 := n1_; have BK243 := n2_; have BK248 := n3_; have HB := n4_; clear n0_ n1_ n2_ n3_ n4_; (try clear hb)) | (go_at_call 66; (with_reducible refine (fixq_Part.calls x2_4 a1 t260 _ A63.out).mono ?_); rintro e w92 ⟨rfl, hb⟩; have n0_ := Aside0.mk (blk_below (g := gb233) (o := .cells #[.int .u64 t231, .bool t232] 63 (0, 0)) kA hb); have n1_ := Aside0.mk (blk_below (g := gb238) (o := .cells #[.int .u64 t236, .bool t237] 63 (0, 0)) kA hb); have n2_ := Aside0.mk (blk_below (g := gb243) (o := .cells #[.int .u64 t241, .bool t242] 63 (0, 0)) kA hb); have n3_ := Aside0.mk (blk_below (g := gb248) (o := .cells #[.int .u64 t246, .bool t247] 63 (0, 0)) kA hb); have n4_ := Aside0.mk (below_step bA hb); clear BK233 BK238 BK243 BK248 HB; have BK233 := n0_; have BK238 := n1_; have BK243 := n2_; have BK248 := n3_; have HB := n4_; clear n0_ n1_ n2_ n3_ n4_; (try clear hb)))
         go_meet
         case rel => exact ⟨_, (false), (by first | rfl | (simp; done) | (simp [*]; done)), H', ⟨by have := HJ4.out; have := HJ15.out; first | omega | exact Nat.le_refl _⟩, ⟨by (with_reducible repeat (first | refine blk_drewN ?_ _ | refine blk_drew ?_ | refine blk_alloc ?_ _)); exact BK233.out⟩, ⟨by (with_reducible repeat (first | refine blk_drewN ?_ _ | refine blk_drew ?_ | refine blk_alloc ?_ _)); exact BK238.out⟩, ⟨by (with_reducible repeat (first | refine blk_drewN ?_ _ | refine blk_drew ?_ | refine blk_alloc ?_ _)); exact BK243.out⟩, ⟨by (with_reducible repeat (first | refine blk_drewN ?_ _ | refine blk_drew ?_ | refine blk_alloc ?_ _)); exact BK248.out⟩, ⟨bA⟩⟩
       ·rw [if_neg c61] at H
        have c61b0 : decide (t241 ≤ t246) = false := decide_eq_false c61
        clear c61
        have H' := Aside0.mk H
        clear H
        have hnb93 := NB233_238.out
        have hnc93 := NB238_233.out
        have hnb94 := NB233_243.out
        have hnc94 := NB243_233.out
        have hnb95 := NB233_248.out
        have hnc95 := NB248_233.out
        have hcz96_0 : wc.cell? ⟨gb233, 0, none⟩ = some (.int .u64 t231) := (blk_cell BK233.out 0).trans rfl
        have hcz96_1 : wc.cell? ⟨gb233, 1, none⟩ = some (.bool t232) := (blk_cell BK233.out 1).trans rfl
        have hfz96_0 := blk_frozen BK233.out 0
        have hfz96_1 := blk_frozen BK233.out 1
        have hnb97 := NB238_243.out
        have hnc97 := NB243_238.out
        have hnb98 := NB238_248.out
        have hnc98 := NB248_238.out
        have hcz99_0 : wc.cell? ⟨gb238, 0, none⟩ = some (.int .u64 t236) := (blk_cell BK238.out 0).trans rfl
        have hcz99_1 : wc.cell? ⟨gb238, 1, none⟩ = some (.bool t237) := (blk_cell BK238.out 1).trans rfl
        have hfz99_0 := blk_frozen BK238.out 0
        have hfz99_1 := blk_frozen BK238.out 1
        have hnb100 := NB243_248.out
        have hnc100 := NB248_243.out
        have hcz101_0 : wc.cell? ⟨gb243, 0, none⟩ = some (.int .u64 t241) := (blk_cell BK243.out 0).trans rfl
        have hcz101_1 : wc.cell? ⟨gb243, 1, none⟩ = some (.bool t242) := (blk_cell BK243.out 1).trans rfl
        have hfz101_0 := blk_frozen BK243.out 0
        have hfz101_1 := blk_frozen BK243.out 1
        have hcz102_0 : wc.cell? ⟨gb248, 0, none⟩ = some (.int .u64 t246) := (blk_cell BK248.out 0).trans rfl
        have hcz102_1 : wc.cell? ⟨gb248, 1, none⟩ = some (.bool t247) := (blk_cell BK248.out 1).trans rfl
        have hfz102_0 := blk_frozen BK248.out 0
        have hfz102_1 := blk_frozen BK248.out 1
        go_wp2
        go_meet
        case rel => exact ⟨_, (false), (by first | rfl | (simp; done) | (simp [*]; done)), H', ⟨by have := HJ4.out; have := HJ15.out; first | omega | exact Nat.le_refl _⟩, ⟨by (with_reducible repeat (first | refine blk_drewN ?_ _ | refine blk_drew ?_ | refine blk_alloc ?_ _)); exact BK233.out⟩, ⟨by (with_reducible repeat (first | refine blk_drewN ?_ _ | refine blk_drew ?_ | refine blk_alloc ?_ _)); exact BK238.out⟩, ⟨by (with_reducible repeat (first | refine blk_drewN ?_ _ | refine blk_drew ?_ | refine blk_alloc ?_ _)); exact BK243.out⟩, ⟨by (with_reducible repeat (first | refine blk_drewN ?_ _ | refine blk_drew ?_ | refine blk_alloc ?_ _)); exact BK248.out⟩, ⟨bA⟩⟩
      ·rw [if_neg c60] at H
       have c60b0 : decide (t231 ≤ t236) = false := decide_eq_false c60
       clear c60
       (first | rw [c60b0] | (simp only [i64_w, i32_w]; rw [c60b0]) | skip)
       have H' := Aside0.mk H
       clear H
       have hnb103 := NB233_238.out
       have hnc103 := NB238_233.out
       have hnb104 := NB233_243.out
       have hnc104 := NB243_233.out
       have hnb105 := NB233_248.out
       have hnc105 := NB248_233.out
       have hcz106_0 : wc.cell? ⟨gb233, 0, none⟩ = some (.int .u64 t231) := (blk_cell BK233.out 0).trans rfl
       have hcz106_1 : wc.cell? ⟨gb233, 1, none⟩ = some (.bool t232) := (blk_cell BK233.out 1).trans rfl
       have hfz106_0 := blk_frozen BK233.out 0
       have hfz106_1 := blk_frozen BK233.out 1
       have hnb107 := NB238_243.out
       have hnc107 := NB243_238.out
       have hnb108 := NB238_248.out
       have hnc108 := NB248_238.out
       have hcz109_0 : wc.cell? ⟨gb238, 0, none⟩ = some (.int .u64 t236) := (blk_cell BK238.out 0).trans rfl
       have hcz109_1 : wc.cell? ⟨gb238, 1, none⟩ = some (.bool t237) := (blk_cell BK238.out 1).trans rfl
       have hfz109_0 := blk_frozen BK238.out 0
       have hfz109_1 := blk_frozen BK238.out 1
       go_wp2
       go_meet
       case rel => exact ⟨_, (false), (by first | rfl | (simp; done) | (simp [*]; done)), H', ⟨by have := HJ4.out; have := HJ15.out; first | omega | exact Nat.le_refl _⟩, ⟨by (with_reducible repeat (first | refine blk_drewN ?_ _ | refine blk_drew ?_ | refine blk_alloc ?_ _)); exact BK233.out⟩, ⟨by (with_reducible repeat (first | refine blk_drewN ?_ _ | refine blk_drew ?_ | refine blk_alloc ?_ _)); exact BK238.out⟩, ⟨by (with_reducible repeat (first | refine blk_drewN ?_ _ | refine blk_drew ?_ | refine blk_alloc ?_ _)); exact BK243.out⟩, ⟨by (with_reducible repeat (first | refine blk_drewN ?_ _ | refine blk_drew ?_ | refine blk_alloc ?_ _)); exact BK248.out⟩, ⟨bA⟩⟩
     case rest =>
      clear HC59
      try clear c1
      try clear p2
      try clear c4
      try clear c5
      try clear c6
      try clear c7
      try clear c8
      try clear c9
      try clear c10
      try clear c42
      try clear c49
      try clear c56
      try clear c60
      try clear c60b0
      try clear c61
      try clear c61b0
      try clear c64
      try clear c64b0
      try clear c67
      try clear c68
      try clear c69
      try clear c71
      try clear c72
      try clear c74
      try clear c81
      try clear c82
      try clear c83
      try clear c85
      try clear c86
      try clear c88
      try clear c93
      try clear c94
      try clear c95
      try clear c97
      try clear c98
      try clear c100
      try clear c103
      try clear c104
      try clear c105
      try clear c107
      try clear c108
      try clear hcz101_0
      try clear hcz101_1
      try clear hcz102_0
      try clear hcz102_1
      try clear hcz106_0
      try clear hcz106_1
      try clear hcz109_0
      try clear hcz109_1
      try clear hcz70_0
      try clear hcz70_1
      try clear hcz73_0
      try clear hcz73_1
      try clear hcz75_0
      try clear hcz75_1
      try clear hcz76_0
      try clear hcz76_1
      try clear hcz84_0
      try clear hcz84_1
      try clear hcz87_0
      try clear hcz87_1
      try clear hcz89_0
      try clear hcz89_1
      try clear hcz90_0
      try clear hcz90_1
      try clear hcz96_0
      try clear hcz96_1
      try clear hcz99_0
      try clear hcz99_1
      try clear hfz101_0
      try clear hfz101_1
      try clear hfz102_0
      try clear hfz102_1
      try clear hfz106_0
      try clear hfz106_1
      try clear hfz109_0
      try clear hfz109_1
      try clear hfz70_0
      try clear hfz70_1
      try clear hfz73_0
      try clear hfz73_1
      try clear hfz75_0
      try clear hfz75_1
      try clear hfz76_0
      try clear hfz76_1
      try clear hfz84_0
      try clear hfz84_1
      try clear hfz87_0
      try clear hfz87_1
      try clear hfz89_0
      try clear hfz89_1
      try clear hfz90_0
      try clear hfz90_1
      try clear hfz96_0
      try clear hfz96_1
      try clear hfz99_0
      try clear hfz99_1
      try clear p2
      obtain ⟨kq, x14_58, rfl, HA, HJ58, BK233, BK238, BK243, BK248, HB⟩ := hcut
      cases kq with
      | zero => exact absurd HA.out (by simp [backfilllaw04_FixqLaws.j2])
      | succ kj58 =>
       have H := HA.out
       clear HA
       simp only [backfilllaw04_FixqLaws.j2] at H
       replace H := Option.bind_eq_some_iff.mp H; obtain ⟨⟨t263, t264⟩, A1100, H⟩ := H; replace H : ((backfilllaw04_of.f t263 t264).bind fun bt265 => ((fixq_Sub.f bt265.1 a1).bind fun bt268 => ((backfilllaw04_of.f bt268.1 bt268.2).bind fun bt270 => ((fixq_MulUp.f kj58 t231 4294967296).bind fun bt273 => ((backfilllaw04_of.f bt273.1 bt273.2).bind fun bt275 => (if t228 = true then (if x13_15 = true then (if x14_58 = true then (if (bt275.1 == t231 && (bt275.2)) = true then (if bt265.2 = true then (if (bt270.1 == x0_4 && (bt270.2)) = true then ((fixq_Part.f x0_4 a1).bind fun t277 => (if t277 ≤ x0_4 then ((fixq_Part.f x0_4 9223372036854775808).bind fun t278 => (if t278 = x0_4 then ((fixq_DivDown.f kj58 x0_4 4294967296).bind fun bt279 => ((backfilllaw04_of.f bt279.1 bt279.2).bind fun bt281 => (some (bt281.1 == x0_4 && (bt281.2))))) else (none))) else (none))) else (none)) else ((fixq_Part.f x0_4 a1).bind fun t283 => (if t283 ≤ x0_4 then ((fixq_Part.f x0_4 9223372036854775808).bind fun t284 => (if t284 = x0_4 then ((fixq_DivDown.f kj58 x0_4 4294967296).bind fun bt285 => ((backfilllaw04_of.f bt285.1 bt285.2).bind fun bt287 => (some (bt287.1 == x0_4 && (bt287.2))))) else (none))) else (none)))) else (none)) else (none)) else (none)) else (none))))))) = some r := H; have A110 := Aside0.mk A1100; clear A1100; replace H := Option.bind_eq_some_iff.mp H; obtain ⟨⟨t265, t266⟩, A1110, H⟩ := H; replace H : ((fixq_Sub.f t265 a1).bind fun bt268 => ((backfilllaw04_of.f bt268.1 bt268.2).bind fun bt270 => ((fixq_MulUp.f kj58 t231 4294967296).bind fun bt273 => ((backfilllaw04_of.f bt273.1 bt273.2).bind fun bt275 => (if t228 = true then (if x13_15 = true then (if x14_58 = true then (if (bt275.1 == t231 && (bt275.2)) = true then (if t266 = true then (if (bt270.1 == x0_4 && (bt270.2)) = true then ((fixq_Part.f x0_4 a1).bind fun t277 => (if t277 ≤ x0_4 then ((fixq_Part.f x0_4 9223372036854775808).bind fun t278 => (if t278 = x0_4 then ((fixq_DivDown.f kj58 x0_4 4294967296).bind fun bt279 => ((backfilllaw04_of.f bt279.1 bt279.2).bind fun bt281 => (some (bt281.1 == x0_4 && (bt281.2))))) else (none))) else (none))) else (none)) else ((fixq_Part.f x0_4 a1).bind fun t283 => (if t283 ≤ x0_4 then ((fixq_Part.f x0_4 9223372036854775808).bind fun t284 => (if t284 = x0_4 then ((fixq_DivDown.f kj58 x0_4 4294967296).bind fun bt285 => ((backfilllaw04_of.f bt285.1 bt285.2).bind fun bt287 => (some (bt287.1 == x0_4 && (bt287.2))))) else (none))) else (none)))) else (none)) else (none)) else (none)) else (none)))))) = some r := H; have A111 := Aside0.mk A1110; clear A1110; replace H := Option.bind_eq_some_iff.mp H; obtain ⟨⟨t268, t269⟩, A1120, H⟩ := H; replace H : ((backfilllaw04_of.f t268 t269).bind fun bt270 => ((fixq_MulUp.f kj58 t231 4294967296).bind fun bt273 => ((backfilllaw04_of.f bt273.1 bt273.2).bind fun bt275 => (if t228 = true then (if x13_15 = true then (if x14_58 = true then (if (bt275.1 == t231 && (bt275.2)) = true then (if t266 = true then (if (bt270.1 == x0_4 && (bt270.2)) = true then ((fixq_Part.f x0_4 a1).bind fun t277 => (if t277 ≤ x0_4 then ((fixq_Part.f x0_4 9223372036854775808).bind fun t278 => (if t278 = x0_4 then ((fixq_DivDown.f kj58 x0_4 4294967296).bind fun bt279 => ((backfilllaw04_of.f bt279.1 bt279.2).bind fun bt281 => (some (bt281.1 == x0_4 && (bt281.2))))) else (none))) else (none))) else (none)) else ((fixq_Part.f x0_4 a1).bind fun t283 => (if t283 ≤ x0_4 then ((fixq_Part.f x0_4 9223372036854775808).bind fun t284 => (if t284 = x0_4 then ((fixq_DivDown.f kj58 x0_4 4294967296).bind fun bt285 => ((backfilllaw04_of.f bt285.1 bt285.2).bind fun bt287 => (some (bt287.1 == x0_4 && (bt287.2))))) else (none))) else (none)))) else (none)) else (none)) else (none)) else (none))))) = some r := H; have A112 := Aside0.mk A1120; clear A1120; replace H := Option.bind_eq_some_iff.mp H; obtain ⟨⟨t270, t271⟩, A1130, H⟩ := H; replace H : ((fixq_MulUp.f kj58 t231 4294967296).bind fun bt273 => ((backfilllaw04_of.f bt273.1 bt273.2).bind fun bt275 => (if t228 = true then (if x13_15 = true then (if x14_58 = true then (if (bt275.1 == t231 && (bt275.2)) = true then (if t266 = true then (if (t270 == x0_4 && (t271)) = true then ((fixq_Part.f x0_4 a1).bind fun t277 => (if t277 ≤ x0_4 then ((fixq_Part.f x0_4 9223372036854775808).bind fun t278 => (if t278 = x0_4 then ((fixq_DivDown.f kj58 x0_4 4294967296).bind fun bt279 => ((backfilllaw04_of.f bt279.1 bt279.2).bind fun bt281 => (some (bt281.1 == x0_4 && (bt281.2))))) else (none))) else (none))) else (none)) else ((fixq_Part.f x0_4 a1).bind fun t283 => (if t283 ≤ x0_4 then ((fixq_Part.f x0_4 9223372036854775808).bind fun t284 => (if t284 = x0_4 then ((fixq_DivDown.f kj58 x0_4 4294967296).bind fun bt285 => ((backfilllaw04_of.f bt285.1 bt285.2).bind fun bt287 => (some (bt287.1 == x0_4 && (bt287.2))))) else (none))) else (none)))) else (none)) else (none)) else (none)) else (none)))) = some r := H
       have A113 := Aside0.mk A1130; clear A1130; replace H := Option.bind_eq_some_iff.mp H; obtain ⟨⟨t273, t274⟩, A1140, H⟩ := H; replace H : ((backfilllaw04_of.f t273 t274).bind fun bt275 => (if t228 = true then (if x13_15 = true then (if x14_58 = true then (if (bt275.1 == t231 && (bt275.2)) = true then (if t266 = true then (if (t270 == x0_4 && (t271)) = true then ((fixq_Part.f x0_4 a1).bind fun t277 => (if t277 ≤ x0_4 then ((fixq_Part.f x0_4 9223372036854775808).bind fun t278 => (if t278 = x0_4 then ((fixq_DivDown.f kj58 x0_4 4294967296).bind fun bt279 => ((backfilllaw04_of.f bt279.1 bt279.2).bind fun bt281 => (some (bt281.1 == x0_4 && (bt281.2))))) else (none))) else (none))) else (none)) else ((fixq_Part.f x0_4 a1).bind fun t283 => (if t283 ≤ x0_4 then ((fixq_Part.f x0_4 9223372036854775808).bind fun t284 => (if t284 = x0_4 then ((fixq_DivDown.f kj58 x0_4 4294967296).bind fun bt285 => ((backfilllaw04_of.f bt285.1 bt285.2).bind fun bt287 => (some (bt287.1 == x0_4 && (bt287.2))))) else (none))) else (none)))) else (none)) else (none)) else (none)) else (none))) = some r := H; have A114 := Aside0.mk A1140; clear A1140; replace H := Option.bind_eq_some_iff.mp H; obtain ⟨⟨t275, t276⟩, A1150, H⟩ := H; replace H : (if t228 = true then (if x13_15 = true then (if x14_58 = true then (if (t275 == t231 && (t276)) = true then (if t266 = true then (if (t270 == x0_4 && (t271)) = true then ((fixq_Part.f x0_4 a1).bind fun t277 => (if t277 ≤ x0_4 then ((fixq_Part.f x0_4 9223372036854775808).bind fun t278 => (if t278 = x0_4 then ((fixq_DivDown.f kj58 x0_4 4294967296).bind fun bt279 => ((backfilllaw04_of.f bt279.1 bt279.2).bind fun bt281 => (some (bt281.1 == x0_4 && (bt281.2))))) else (none))) else (none))) else (none)) else ((fixq_Part.f x0_4 a1).bind fun t283 => (if t283 ≤ x0_4 then ((fixq_Part.f x0_4 9223372036854775808).bind fun t284 => (if t284 = x0_4 then ((fixq_DivDown.f kj58 x0_4 4294967296).bind fun bt285 => ((backfilllaw04_of.f bt285.1 bt285.2).bind fun bt287 => (some (bt287.1 == x0_4 && (bt287.2))))) else (none))) else (none)))) else (none)) else (none)) else (none)) else (none)) = some r := H; have A115 := Aside0.mk A1150; clear A1150
       by_cases c116 : t228 = true
       ·subst c116
        have H1 : (if x13_15 = true then (if x14_58 = true then (if (t275 == t231 && (t276)) = true then (if t266 = true then (if (t270 == x0_4 && (t271)) = true then ((fixq_Part.f x0_4 a1).bind fun t277 => (if t277 ≤ x0_4 then ((fixq_Part.f x0_4 9223372036854775808).bind fun t278 => (if t278 = x0_4 then ((fixq_DivDown.f kj58 x0_4 4294967296).bind fun bt279 => ((backfilllaw04_of.f bt279.1 bt279.2).bind fun bt281 => (some (bt281.1 == x0_4 && (bt281.2))))) else (none))) else (none))) else (none)) else ((fixq_Part.f x0_4 a1).bind fun t283 => (if t283 ≤ x0_4 then ((fixq_Part.f x0_4 9223372036854775808).bind fun t284 => (if t284 = x0_4 then ((fixq_DivDown.f kj58 x0_4 4294967296).bind fun bt285 => ((backfilllaw04_of.f bt285.1 bt285.2).bind fun bt287 => (some (bt287.1 == x0_4 && (bt287.2))))) else (none))) else (none)))) else (none)) else (none)) else (none)) = some r := by rw [if_pos rfl] at H; exact H
        clear H
        have H := H1
        clear H1
        by_cases c117 : x13_15 = true
        ·subst c117
         have H1 : (if x14_58 = true then (if (t275 == t231 && (t276)) = true then (if t266 = true then (if (t270 == x0_4 && (t271)) = true then ((fixq_Part.f x0_4 a1).bind fun t277 => (if t277 ≤ x0_4 then ((fixq_Part.f x0_4 9223372036854775808).bind fun t278 => (if t278 = x0_4 then ((fixq_DivDown.f kj58 x0_4 4294967296).bind fun bt279 => ((backfilllaw04_of.f bt279.1 bt279.2).bind fun bt281 => (some (bt281.1 == x0_4 && (bt281.2))))) else (none))) else (none))) else (none)) else ((fixq_Part.f x0_4 a1).bind fun t283 => (if t283 ≤ x0_4 then ((fixq_Part.f x0_4 9223372036854775808).bind fun t284 => (if t284 = x0_4 then ((fixq_DivDown.f kj58 x0_4 4294967296).bind fun bt285 => ((backfilllaw04_of.f bt285.1 bt285.2).bind fun bt287 => (some (bt287.1 == x0_4 && (bt287.2))))) else (none))) else (none)))) else (none)) else (none)) = some r := by rw [if_pos rfl] at H; exact H
         clear H
         have H := H1
         clear H1
         by_cases c118 : x14_58 = true
         ·subst c118
          have H1 : (if (t275 == t231 && (t276)) = true then (if t266 = true then (if (t270 == x0_4 && (t271)) = true then ((fixq_Part.f x0_4 a1).bind fun t277 => (if t277 ≤ x0_4 then ((fixq_Part.f x0_4 9223372036854775808).bind fun t278 => (if t278 = x0_4 then ((fixq_DivDown.f kj58 x0_4 4294967296).bind fun bt279 => ((backfilllaw04_of.f bt279.1 bt279.2).bind fun bt281 => (some (bt281.1 == x0_4 && (bt281.2))))) else (none))) else (none))) else (none)) else ((fixq_Part.f x0_4 a1).bind fun t283 => (if t283 ≤ x0_4 then ((fixq_Part.f x0_4 9223372036854775808).bind fun t284 => (if t284 = x0_4 then ((fixq_DivDown.f kj58 x0_4 4294967296).bind fun bt285 => ((backfilllaw04_of.f bt285.1 bt285.2).bind fun bt287 => (some (bt287.1 == x0_4 && (bt287.2))))) else (none))) else (none)))) else (none)) = some r := by rw [if_pos rfl] at H; exact H
          clear H
          have H := H1
          clear H1
          by_cases c119 : (t275 == t231 && (t276)) = true
          ·rw [if_pos c119] at H
           have c119b0 : (t275 == t231 && (t276)) = true := c119
           (try (have c119b1 : decide (t275 = t231 && (t276)) = true := by simpa using c119))
           (try (have c119b2 : (t275 == t231 && (t276)) = true := by simpa using c119))
           clear c119
           by_cases c120 : t266 = true
           ·subst c120
            have H1 : (if (t270 == x0_4 && (t271)) = true then ((fixq_Part.f x0_4 a1).bind fun t277 => (if t277 ≤ x0_4 then ((fixq_Part.f x0_4 9223372036854775808).bind fun t278 => (if t278 = x0_4 then ((fixq_DivDown.f kj58 x0_4 4294967296).bind fun bt279 => ((backfilllaw04_of.f bt279.1 bt279.2).bind fun bt281 => (some (bt281.1 == x0_4 && (bt281.2))))) else (none))) else (none))) else (none)) = some r := by rw [if_pos rfl] at H; exact H
            clear H
            have H := H1
            clear H1
            by_cases c121 : (t270 == x0_4 && (t271)) = true
            ·rw [if_pos c121] at H
             have c121b0 : (t270 == x0_4 && (t271)) = true := c121
             (try (have c121b1 : decide (t270 = x0_4 && (t271)) = true := by simpa using c121))
             (try (have c121b2 : (t270 == x0_4 && (t271)) = true := by simpa using c121))
             clear c121; replace H := Option.bind_eq_some_iff.mp H; obtain ⟨t277, A1220, H⟩ := H; replace H : (if t277 ≤ x0_4 then ((fixq_Part.f x0_4 9223372036854775808).bind fun t278 => (if t278 = x0_4 then ((fixq_DivDown.f kj58 x0_4 4294967296).bind fun bt279 => ((backfilllaw04_of.f bt279.1 bt279.2).bind fun bt281 => (some (bt281.1 == x0_4 && (bt281.2))))) else (none))) else (none)) = some r := H; have A122 := Aside0.mk A1220; clear A1220
             by_cases c123 : t277 ≤ x0_4
             ·rw [if_pos c123] at H
              have c123b0 : decide (t277 ≤ x0_4) = true := decide_eq_true c123
              clear c123; replace H := Option.bind_eq_some_iff.mp H; obtain ⟨t278, A1240, H⟩ := H; replace H : (if t278 = x0_4 then ((fixq_DivDown.f kj58 x0_4 4294967296).bind fun bt279 => ((backfilllaw04_of.f bt279.1 bt279.2).bind fun bt281 => (some (bt281.1 == x0_4 && (bt281.2))))) else (none)) = some r := H; have A124 := Aside0.mk A1240; clear A1240
              by_cases c125 : t278 = x0_4
              ·rw [if_pos c125] at H
               have c125b0 : (t278 == x0_4) = true := beq_iff_eq.mpr c125
               have c125b1 : (t278 != x0_4) = false := bne_eq_false_iff_eq.mpr c125
               clear c125; replace H := Option.bind_eq_some_iff.mp H; obtain ⟨⟨t279, t280⟩, A1260, H⟩ := H; replace H : ((backfilllaw04_of.f t279 t280).bind fun bt281 => (some (bt281.1 == x0_4 && (bt281.2)))) = some r := H; have A126 := Aside0.mk A1260; clear A1260; replace H := Option.bind_eq_some_iff.mp H; obtain ⟨⟨t281, t282⟩, A1270, H⟩ := H; replace H : (some (t281 == x0_4 && (t282))) = some r := H; have A127 := Aside0.mk A1270; clear A1270
               obtain rfl := Option.some.inj H
               try go_wp2_with (first | ((with_reducible refine gate_callee (f := 50) rfl ?_); refine goesL_ (some 99) rfl rfl Try.func50 (by kernel_rfl) rfl #[.int .u64 x0_4, .int .u64 a1] rfl aA ?_; (with_reducible refine (fixq_Add.calls x0_4 a1 t263 t264 _ A110.out).mono ?_); rintro e w128 ⟨rfl, hb⟩; refine ⟨_, rfl, ?_⟩; have n0_ := Aside0.mk (blk_below (g := gb233) (o := .cells #[.int .u64 t231, .bool t232] 63 (0, 0)) kA hb); have n1_ := Aside0.mk (blk_below (g := gb238) (o := .cells #[.int .u64 t236, .bool t237] 63 (0, 0)) kA hb); have n2_ := Aside0.mk (blk_below (g := gb243) (o := .cells #[.int .u64 t241, .bool t242] 63 (0, 0)) kA hb); have n3_ := Aside0.mk (blk_below (g := gb248) (o := .cells #[.int .u64 t246, .bool t247] 63 (0, 0)) kA hb); have n4_ := Aside0.mk (below_step bA hb); clear BK233 BK238 BK243 BK248 HB; have BK233 := n0_; have BK238 := n1_; have BK243 := n2_; have BK248 := n3_; have HB := n4_; clear n0_ n1_ n2_ n3_ n4_; (try clear hb)) | ((with_reducible refine gate_callee (f := 49) rfl ?_); refine goesL_ (some 102) rfl rfl Try.func49 (by kernel_rfl) rfl #[.int .u64 t263, .bool t264] rfl aA ?_; (with_reducible refine (backfilllaw04_of.calls t263 t264 t265 true _ A111.out).mono ?_); rintro e w129 ⟨rfl, hb⟩; refine ⟨_, rfl, ?_⟩; have n0_ := Aside0.mk (blk_below (g := gb233) (o := .cells #[.int .u64 t231, .bool t232] 63 (0, 0)) kA hb); have n1_ := Aside0.mk (blk_below (g := gb238) (o := .cells #[.int .u64 t236, .bool t237] 63 (0, 0)) kA hb); have n2_ := Aside0.mk (blk_below (g := gb243) (o := .cells #[.int .u64 t241, .bool t242] 63 (0, 0)) kA hb); have n3_ := Aside0.mk (blk_below (g := gb248) (o := .cells #[.int .u64 t246, .bool t247] 63 (0, 0)) kA hb); have n4_ := Aside0.mk (below_step bA hb); clear BK233 BK238 BK243 BK248 HB; have BK233 := n0_; have BK238 := n1_; have BK243 := n2_; have BK248 := n3_; have HB := n4_; clear n0_ n1_ n2_ n3_ n4_; (try clear hb)) | ((with_reducible refine gate_dst (N := 15) rfl ?_); refine bxA 15 #[.int .u64 0, .bool false] 63 ?_; intro gb267 hg w130 hbox hb; have n0_ := Aside0.mk (blk_below (g := gb233) (o := .cells #[.int .u64 t231, .bool t232] 63 (0, 0)) kA hb); have n1_ := Aside0.mk (blk_below (g := gb238) (o := .cells #[.int .u64 t236, .bool t237] 63 (0, 0)) kA hb); have n2_ := Aside0.mk (blk_below (g := gb243) (o := .cells #[.int .u64 t241, .bool t242] 63 (0, 0)) kA hb); have n3_ := Aside0.mk (blk_below (g := gb248) (o := .cells #[.int .u64 t246, .bool t247] 63 (0, 0)) kA hb); have n4_ := Aside0.mk (below_step bA hb); have n5_ := Aside0.mk (hbox); have n6_ := Aside0.mk ((by rw [hg]; exact (below_size bA) : w.heap.size ≤ gb267)); have n7_ := Aside0.mk ((by rw [hg]; exact (below_size bA) : w.heap.size ≤ gb267)); have n8_ := Aside0.mk ((by rw [hg]; exact Nat.ne_of_lt (blk_lt (g := gb233) (o := .cells #[.int .u64 t231, .bool t232] 63 (0, 0)) kA) : gb233 ≠ gb267)); have n9_ := Aside0.mk ((by rw [hg]; exact Nat.ne_of_gt (blk_lt (g := gb233) (o := .cells #[.int .u64 t231, .bool t232] 63 (0, 0)) kA) : gb267 ≠ gb233)); have n10_ := Aside0.mk ((by rw [hg]; exact Nat.ne_of_lt (blk_lt (g := gb238) (o := .cells #[.int .u64 t236, .bool t237] 63 (0, 0)) kA) : gb238 ≠ gb267)); have n11_ := Aside0.mk ((by rw [hg]; exact Nat.ne_of_gt (blk_lt (g := gb238) (o := .cells #[.int .u64 t236, .bool t237] 63 (0, 0)) kA) : gb267 ≠ gb238)); have n12_ := Aside0.mk ((by rw [hg]; exact Nat.ne_of_lt (blk_lt (g := gb243) (o := .cells #[.int .u64 t241, .bool t242] 63 (0, 0)) kA) : gb243 ≠ gb267)); have n13_ := Aside0.mk ((by rw [hg]; exact Nat.ne_of_gt (blk_lt (g := gb243) (o := .cells #[.int .u64 t241, .bool t242] 63 (0, 0)) kA) : gb267 ≠ gb243)); have n14_ := Aside0.mk ((by rw [hg]; exact Nat.ne_of_lt (blk_lt (g := gb248) (o := .cells #[.int .u64 t246, .bool t247] 63 (0, 0)) kA) : gb248 ≠ gb267)); have n15_ := Aside0.mk ((by rw [hg]; exact Nat.ne_of_gt (blk_lt (g := gb248) (o := .cells #[.int .u64 t246, .bool t247] 63 (0, 0)) kA) : gb267 ≠ gb248)); clear BK233 BK238 BK243 BK248 HB; have BK233 := n0_; have BK238 := n1_; have BK243 := n2_; have BK248 := n3_; have HB := n4_; have BK267 := n5_; have GW267 := n6_; have GE267 := n7_; have NB233_267 := n8_; have NB267_233 := n9_; have NB238_267 := n10_; have NB267_238 := n11_; have NB243_267 := n12_; have NB267_243 := n13_; have NB248_267 := n14_; have NB267_248 := n15_; clear n0_ n1_ n2_ n3_ n4_ n5_ n6_ n7_ n8_ n9_ n10_ n11_ n12_ n13_ n14_ n15_ hb hbox hg; have hnb131 := NB267_233.out; have hnc131 := NB233_267.out; have hnb132 := NB267_238.out; have hnc132 := NB238_267.out; have hnb133 := NB267_243.out; have hnc133 := NB243_267.out; have hnb134 := NB267_248.out; have hnc134 := NB248_267.out; have hcz135_0 : w130.cell? ⟨gb267, 0, none⟩ = some (.int .u64 0) := (blk_cell BK267.out 0).trans rfl; have hcz135_1 : w130.cell? ⟨gb267, 1, none⟩ = some (.bool false) := (blk_cell BK267.out 1).trans rfl; have hfz135_0 := blk_frozen BK267.out 0; have hfz135_1 := blk_frozen BK267.out 1) | ((with_reducible refine gate_callee (f := 52) rfl ?_); refine goesL_ (some 106) rfl rfl Try.func52 (by kernel_rfl) rfl #[.int .u64 t265, .int .u64 a1] rfl aA ?_; (with_reducible refine (fixq_Sub.calls t265 a1 t268 t269 _ A112.out).mono ?_); rintro e w' ⟨rfl, ⟨nd, rfl⟩⟩; refine ⟨_, rfl, ?_⟩) | ((with_reducible refine gate_callee (f := 49) rfl ?_); refine goesL_ (some 109) rfl rfl Try.func49 (by kernel_rfl) rfl #[.int .u64 t268, .bool t269] rfl aA ?_; (with_reducible refine (backfilllaw04_of.calls t268 t269 t270 t271 _ A113.out).mono ?_); rintro e w136 ⟨rfl, hb⟩; refine ⟨_, rfl, ?_⟩; have n0_ := Aside0.mk (blk_below (g := gb233) (o := .cells #[.int .u64 t231, .bool t232] 63 (0, 0)) (by (with_reducible repeat (first | refine blk_drewN ?_ _ | refine blk_drew ?_ | refine blk_alloc ?_ _)); refine blk_far ?_ NB233_267.out _; (with_reducible repeat (first | refine blk_drewN ?_ _ | refine blk_drew ?_ | refine blk_alloc ?_ _)); refine blk_far ?_ NB233_267.out _; (with_reducible repeat (first | refine blk_drewN ?_ _ | refine blk_drew ?_ | refine blk_alloc ?_ _)); exact BK233.out) hb); have n1_ := Aside0.mk (blk_below (g := gb238) (o := .cells #[.int .u64 t236, .bool t237] 63 (0, 0)) (by (with_reducible repeat (first | refine blk_drewN ?_ _ | refine blk_drew ?_ | refine blk_alloc ?_ _)); refine blk_far ?_ NB238_267.out _; (with_reducible repeat (first | refine blk_drewN ?_ _ | refine blk_drew ?_ | refine blk_alloc ?_ _)); refine blk_far ?_ NB238_267.out _; (with_reducible repeat (first | refine blk_drewN ?_ _ | refine blk_drew ?_ | refine blk_alloc ?_ _)); exact BK238.out) hb); have n2_ := Aside0.mk (blk_below (g := gb243) (o := .cells #[.int .u64 t241, .bool t242] 63 (0, 0)) (by (with_reducible repeat (first | refine blk_drewN ?_ _ | refine blk_drew ?_ | refine blk_alloc ?_ _)); refine blk_far ?_ NB243_267.out _; (with_reducible repeat (first | refine blk_drewN ?_ _ | refine blk_drew ?_ | refine blk_alloc ?_ _)); refine blk_far ?_ NB243_267.out _; (with_reducible repeat (first | refine blk_drewN ?_ _ | refine blk_drew ?_ | refine blk_alloc ?_ _)); exact BK243.out) hb); have n3_ := Aside0.mk (blk_below (g := gb248) (o := .cells #[.int .u64 t246, .bool t247] 63 (0, 0)) (by (with_reducible repeat (first | refine blk_drewN ?_ _ | refine blk_drew ?_ | refine blk_alloc ?_ _)); refine blk_far ?_ NB248_267.out _; (with_reducible repeat (first | refine blk_drewN ?_ _ | refine blk_drew ?_ | refine blk_alloc ?_ _)); refine blk_far ?_ NB248_267.out _; (with_reducible repeat (first | refine blk_drewN ?_ _ | refine blk_drew ?_ | refine blk_alloc ?_ _)); exact BK248.out) hb); have n4_ := Aside0.mk (blk_below (g := gb267) (o := .cells #[.int .u64 t265, .bool true] 63 (0, 0)) (by (with_reducible repeat (first | refine blk_drewN ?_ _ | refine blk_drew ?_ | refine blk_alloc ?_ _)); refine blk_put (cs := #[.int .u64 t265, .bool false]) ?_ 1 _ rfl; (with_reducible repeat (first | refine blk_drewN ?_ _ | refine blk_drew ?_ | refine blk_alloc ?_ _)); refine blk_put (cs := #[.int .u64 0, .bool false]) ?_ 0 _ rfl; (with_reducible repeat (first | refine blk_drewN ?_ _ | refine blk_drew ?_ | refine blk_alloc ?_ _)); exact BK267.out) hb); have n5_ := Aside0.mk (below_step bA hb); clear BK233 BK238 BK243 BK248 BK267 HB; have BK233 := n0_; have BK238 := n1_; have BK243 := n2_; have BK248 := n3_; have BK267 := n4_; have HB := n5_; clear n0_ n1_ n2_ n3_ n4_ n5_; (try clear hb)) | ((with_reducible refine gate_dst (N := 16) rfl ?_); refine bxA 16 #[.int .u64 0, .bool false] 63 ?_; intro gb272 hg w137 hbox hb; have n0_ := Aside0.mk (blk_below (g := gb233) (o := .cells #[.int .u64 t231, .bool t232] 63 (0, 0)) kA hb); have n1_ := Aside0.mk (blk_below (g := gb238) (o := .cells #[.int .u64 t236, .bool t237] 63 (0, 0)) kA hb); have n2_ := Aside0.mk (blk_below (g := gb243) (o := .cells #[.int .u64 t241, .bool t242] 63 (0, 0)) kA hb); have n3_ := Aside0.mk (blk_below (g := gb248) (o := .cells #[.int .u64 t246, .bool t247] 63 (0, 0)) kA hb); have n4_ := Aside0.mk (blk_below (g := gb267) (o := .cells #[.int .u64 t265, .bool true] 63 (0, 0)) kA hb); have n5_ := Aside0.mk (below_step bA hb); have n6_ := Aside0.mk (hbox); have n7_ := Aside0.mk ((by rw [hg]; exact (below_size bA) : w.heap.size ≤ gb272)); have n8_ := Aside0.mk ((by rw [hg]; exact (below_size bA) : w.heap.size ≤ gb272)); have n9_ := Aside0.mk ((by rw [hg]; exact Nat.ne_of_lt (blk_lt (g := gb233) (o := .cells #[.int .u64 t231, .bool t232] 63 (0, 0)) kA) : gb233 ≠ gb272)); have n10_ := Aside0.mk ((by rw [hg]; exact Nat.ne_of_gt (blk_lt (g := gb233) (o := .cells #[.int .u64 t231, .bool t232] 63 (0, 0)) kA) : gb272 ≠ gb233)); have n11_ := Aside0.mk ((by rw [hg]; exact Nat.ne_of_lt (blk_lt (g := gb238) (o := .cells #[.int .u64 t236, .bool t237] 63 (0, 0)) kA) : gb238 ≠ gb272)); have n12_ := Aside0.mk ((by rw [hg]; exact Nat.ne_of_gt (blk_lt (g := gb238) (o := .cells #[.int .u64 t236, .bool t237] 63 (0, 0)) kA) : gb272 ≠ gb238)); have n13_ := Aside0.mk ((by rw [hg]; exact Nat.ne_of_lt (blk_lt (g := gb243) (o := .cells #[.int .u64 t241, .bool t242] 63 (0, 0)) kA) : gb243 ≠ gb272)); have n14_ := Aside0.mk ((by rw [hg]; exact Nat.ne_of_gt (blk_lt (g := gb243) (o := .cells #[.int .u64 t241, .bool t242] 63 (0, 0)) kA) : gb272 ≠ gb243)); have n15_ := Aside0.mk ((by rw [hg]; exact Nat.ne_of_lt (blk_lt (g := gb248) (o := .cells #[.int .u64 t246, .bool t247] 63 (0, 0)) kA) : gb248 ≠ gb272)); have n16_ := Aside0.mk ((by rw [hg]; exact Nat.ne_of_gt (blk_lt (g := gb248) (o := .cells #[.int .u64 t246, .bool t247] 63 (0, 0)) kA) : gb272 ≠ gb248)); have n17_ := Aside0.mk ((by rw [hg]; exact Nat.ne_of_lt (blk_lt (g := gb267) (o := .cells #[.int .u64 t265, .bool true] 63 (0, 0)) kA) : gb267 ≠ gb272)); have n18_ := Aside0.mk ((by rw [hg]; exact Nat.ne_of_gt (blk_lt (g := gb267) (o := .cells #[.int .u64 t265, .bool true] 63 (0, 0)) kA) : gb272 ≠ gb267)); clear BK233 BK238 BK243 BK248 BK267 HB; have BK233 := n0_; have BK238 := n1_; have BK243 := n2_; have BK248 := n3_; have BK267 := n4_; have HB := n5_; have BK272 := n6_; have GW272 := n7_; have GE272 := n8_; have NB233_272 := n9_; have NB272_233 := n10_; have NB238_272 := n11_; have NB272_238 := n12_; have NB243_272 := n13_; have NB272_243 := n14_; have NB248_272 := n15_; have NB272_248 := n16_; have NB267_272 := n17_; have NB272_267 := n18_; clear n0_ n1_ n2_ n3_ n4_ n5_ n6_ n7_ n8_ n9_ n10_ n11_ n12_ n13_ n14_ n15_ n16_ n17_ n18_ hb hbox hg; have hnb138 := NB272_233.out; have hnc138 := NB233_272.out; have hnb139 := NB272_238.out; have hnc139 := NB238_272.out; have hnb140 := NB272_243.out; have hnc140 := NB243_272.out; have hnb141 := NB272_248.out; have hnc141 := NB248_272.out; have hnb142 := NB272_267.out; have hnc142 := NB267_272.out; have hcz143_0 : w137.cell? ⟨gb272, 0, none⟩ = some (.int .u64 0) := (blk_cell BK272.out 0).trans rfl; have hcz143_1 : w137.cell? ⟨gb272, 1, none⟩ = some (.bool false) := (blk_cell BK272.out 1).trans rfl; have hfz143_0 := blk_frozen BK272.out 0; have hfz143_1 := blk_frozen BK272.out 1))
               have n0_ : Aside0 (((w137.setCell ⟨gb272, 0, none⟩ (.int .u64 t270)).setCell ⟨gb272, 1, none⟩ (.bool t271)).heap[gb233]? = some (.cells #[.int .u64 t231, .bool t232] 63 (0, 0))) := ⟨by (with_reducible repeat (first | refine blk_drewN ?_ _ | refine blk_drew ?_ | refine blk_alloc ?_ _)); refine blk_far ?_ NB233_272.out _; (with_reducible repeat (first | refine blk_drewN ?_ _ | refine blk_drew ?_ | refine blk_alloc ?_ _)); refine blk_far ?_ NB233_272.out _; (with_reducible repeat (first | refine blk_drewN ?_ _ | refine blk_drew ?_ | refine blk_alloc ?_ _)); exact BK233.out⟩
               have n1_ : Aside0 (((w137.setCell ⟨gb272, 0, none⟩ (.int .u64 t270)).setCell ⟨gb272, 1, none⟩ (.bool t271)).heap[gb238]? = some (.cells #[.int .u64 t236, .bool t237] 63 (0, 0))) := ⟨by (with_reducible repeat (first | refine blk_drewN ?_ _ | refine blk_drew ?_ | refine blk_alloc ?_ _)); refine blk_far ?_ NB238_272.out _; (with_reducible repeat (first | refine blk_drewN ?_ _ | refine blk_drew ?_ | refine blk_alloc ?_ _)); refine blk_far ?_ NB238_272.out _; (with_reducible repeat (first | refine blk_drewN ?_ _ | refine blk_drew ?_ | refine blk_alloc ?_ _)); exact BK238.out⟩
               have n2_ : Aside0 (((w137.setCell ⟨gb272, 0, none⟩ (.int .u64 t270)).setCell ⟨gb272, 1, none⟩ (.bool t271)).heap[gb243]? = some (.cells #[.int .u64 t241, .bool t242] 63 (0, 0))) := ⟨by (with_reducible repeat (first | refine blk_drewN ?_ _ | refine blk_drew ?_ | refine blk_alloc ?_ _)); refine blk_far ?_ NB243_272.out _; (with_reducible repeat (first | refine blk_drewN ?_ _ | refine blk_drew ?_ | refine blk_alloc ?_ _)); refine blk_far ?_ NB243_272.out _; (with_reducible repeat (first | refine blk_drewN ?_ _ | refine blk_drew ?_ | refine blk_alloc ?_ _)); exact BK243.out⟩
               have n3_ : Aside0 (((w137.setCell ⟨gb272, 0, none⟩ (.int .u64 t270)).setCell ⟨gb272, 1, none⟩ (.bool t271)).heap[gb248]? = some (.cells #[.int .u64 t246, .bool t247] 63 (0, 0))) := ⟨by (with_reducible repeat (first | refine blk_drewN ?_ _ | refine blk_drew ?_ | refine blk_alloc ?_ _)); refine blk_far ?_ NB248_272.out _; (with_reducible repeat (first | refine blk_drewN ?_ _ | refine blk_drew ?_ | refine blk_alloc ?_ _)); refine blk_far ?_ NB248_272.out _; (with_reducible repeat (first | refine blk_drewN ?_ _ | refine blk_drew ?_ | refine blk_alloc ?_ _)); exact BK248.out⟩
               have n4_ : Aside0 (((w137.setCell ⟨gb272, 0, none⟩ (.int .u64 t270)).setCell ⟨gb272, 1, none⟩ (.bool t271)).heap[gb267]? = some (.cells #[.int .u64 t265, .bool true] 63 (0, 0))) := ⟨by (with_reducible repeat (first | refine blk_drewN ?_ _ | refine blk_drew ?_ | refine blk_alloc ?_ _)); refine blk_far ?_ NB267_272.out _; (with_reducible repeat (first | refine blk_drewN ?_ _ | refine blk_drew ?_ | refine blk_alloc ?_ _)); refine blk_far ?_ NB267_272.out _; (with_reducible repeat (first | refine blk_drewN ?_ _ | refine blk_drew ?_ | refine blk_alloc ?_ _)); exact BK267.out⟩
               have n5_ : Aside0 (((w137.setCell ⟨gb272, 0, none⟩ (.int .u64 t270)).setCell ⟨gb272, 1, none⟩ (.bool t271)).heap[gb272]? = some (.cells #[.int .u64 t270, .bool t271] 63 (0, 0))) := ⟨by (with_reducible repeat (first | refine blk_drewN ?_ _ | refine blk_drew ?_ | refine blk_alloc ?_ _)); refine blk_put (cs := #[.int .u64 t270, .bool false]) ?_ 1 _ rfl; (with_reducible repeat (first | refine blk_drewN ?_ _ | refine blk_drew ?_ | refine blk_alloc ?_ _)); refine blk_put (cs := #[.int .u64 0, .bool false]) ?_ 0 _ rfl; (with_reducible repeat (first | refine blk_drewN ?_ _ | refine blk_drew ?_ | refine blk_alloc ?_ _)); exact BK272.out⟩
               have n6_ : Aside0 (Below w.heap.size w ((w137.setCell ⟨gb272, 0, none⟩ (.int .u64 t270)).setCell ⟨gb272, 1, none⟩ (.bool t271))) := ⟨bA⟩
               (try clear BK233); (try clear BK238); (try clear BK243); (try clear BK248); (try clear BK267); (try clear BK272); (try clear HB)
               generalize ((w137.setCell ⟨gb272, 0, none⟩ (.int .u64 t270)).setCell ⟨gb272, 1, none⟩ (.bool t271)) = w144 at n0_ n1_ n2_ n3_ n4_ n5_ n6_ ⊢
               have BK233 := n0_; have BK238 := n1_; have BK243 := n2_; have BK248 := n3_; have BK267 := n4_; have BK272 := n5_; have HB := n6_; clear n0_ n1_ n2_ n3_ n4_ n5_ n6_; have n0_ := Aside0.mk (blk_drew BK233.out); have n1_ := Aside0.mk (blk_drew BK238.out); have n2_ := Aside0.mk (blk_drew BK243.out); have n3_ := Aside0.mk (blk_drew BK248.out); have n4_ := Aside0.mk (blk_drew BK267.out); have n5_ := Aside0.mk (blk_drew BK272.out); have n6_ := Aside0.mk (below_drew1 HB.out); clear BK233 BK238 BK243 BK248 BK267 BK272 HB; have BK233 := n0_; have BK238 := n1_; have BK243 := n2_; have BK248 := n3_; have BK267 := n4_; have BK272 := n5_; have HB := n6_; clear n0_ n1_ n2_ n3_ n4_ n5_ n6_
               refine start_ (n := 11) (S := fun w' => w'.cell? ⟨gb233, 0, none⟩ = some (.int .u64 t231) ∧ w'.cell? ⟨gb233, 1, none⟩ = some (.bool t232)) (ds := []) #[false, false, false, false, false, false, false, false, false, false, false] (by kernel_rfl) rfl rfl ⟨(blk_cell BK233.out 0).trans rfl, (blk_cell BK233.out 1).trans rfl⟩ (fun hHeld => ?_); refine with_tabW backfilllaw04_FixqLaws.tab14 backfilllaw04_FixqLaws.bits14 (fun HT_ HW_ => ?_)
               generalize w144.drew = w145 at BK233 BK238 BK243 BK248 BK267 BK272 HB hHeld ⊢
               refine pure_ (i := 0) (N := some 110) (v := ?_) (a' := ?_) #[true, false, false, false, false, false, false, false, false, false, false] rfl rfl (any_of HT_.out (by kernel_rfl)) (fun _ _ _ h => h) (Or.inl ⟨by rfl, ?_⟩) ?_ ?_
               rotate_left
               ·intro w'
                go_simp; with_reducible rfl
               rotate_left
               ·simp only [Act.put, List.setIfInBounds_toArray, List.set_cons_zero, List.set_cons_succ, i64_w, i32_w]
                rfl
               refine pure_ (i := 6) (N := some 116) (v := ?_) (a' := ?_) #[true, false, false, false, false, false, true, false, false, false, false] rfl rfl (any_of HT_.out (by kernel_rfl)) (fun _ _ _ h => h) (Or.inl ⟨by rfl, ?_⟩) ?_ ?_
               rotate_left
               ·intro w'
                go_simp; with_reducible rfl
               rotate_left
               ·simp only [Act.put, List.setIfInBounds_toArray, List.set_cons_zero, List.set_cons_succ, i64_w, i32_w]
                rfl
               refine take_ (i := 1) (N := some 111) (v := ?_) (a' := ?_) #[true, true, false, false, false, false, true, false, false, false, false] rfl rfl (take_ofW HT_.out HW_.out (by kernel_rfl)) (fun _ _ _ h => h) (Or.inl ⟨by rfl, ?_⟩) hHeld ?_ ?_
               rotate_left
               ·rintro w' ⟨s0, s1⟩
                go_simp; with_reducible rfl
               rotate_left
               ·simp only [Act.put, List.setIfInBounds_toArray, List.set_cons_zero, List.set_cons_succ, i64_w, i32_w]
                rfl
               refine take_ (i := 7) (N := some 117) (v := ?_) (a' := ?_) #[true, true, false, false, false, false, true, true, false, false, false] rfl rfl (take_ofW HT_.out HW_.out (by kernel_rfl)) (fun _ _ _ h => h) (Or.inl ⟨by rfl, ?_⟩) hHeld ?_ ?_
               rotate_left
               ·rintro w' ⟨s0, s1⟩
                go_simp; with_reducible rfl
               rotate_left
               ·simp only [Act.put, List.setIfInBounds_toArray, List.set_cons_zero, List.set_cons_succ, i64_w, i32_w]
                rfl
               refine pure_ (i := 8) (N := some 118) (v := ?_) (a' := ?_) #[true, true, false, false, false, false, true, true, true, false, false] rfl rfl (any_of HT_.out (by kernel_rfl)) (fun _ _ _ h => h) (Or.inl ⟨by rfl, ?_⟩) ?_ ?_
               rotate_left
               ·intro w'
                go_simp; with_reducible rfl
               rotate_left
               ·simp only [Act.put, List.setIfInBounds_toArray, List.set_cons_zero, List.set_cons_succ, i64_w, i32_w]
                rfl
               refine one_ (i := 2) (N := some 112) #[true, true, true, false, false, false, true, true, true, false, false] rfl rfl (one_of HT_.out (by kernel_rfl)) (by decide) (fun K hK => ?_)
               refine goes_ Try.func56 (by kernel_rfl) rfl #[.int .u64 t231, .int .u64 4294967296] (by rfl) rfl rfl aA ?_
               with_reducible refine (fixq_MulUp.calls kj58 t231 4294967296 t273 t274 _ A114.out).mono ?_
               rintro e w146 ⟨rfl, hb⟩
               refine ⟨_, rfl, ?_⟩; have n0_ := Aside0.mk (blk_below (g := gb233) (o := .cells #[.int .u64 t231, .bool t232] 63 (0, 0)) kA hb); have n1_ := Aside0.mk (blk_below (g := gb238) (o := .cells #[.int .u64 t236, .bool t237] 63 (0, 0)) kA hb); have n2_ := Aside0.mk (blk_below (g := gb243) (o := .cells #[.int .u64 t241, .bool t242] 63 (0, 0)) kA hb); have n3_ := Aside0.mk (blk_below (g := gb248) (o := .cells #[.int .u64 t246, .bool t247] 63 (0, 0)) kA hb); have n4_ := Aside0.mk (blk_below (g := gb267) (o := .cells #[.int .u64 t265, .bool true] 63 (0, 0)) kA hb); have n5_ := Aside0.mk (blk_below (g := gb272) (o := .cells #[.int .u64 t270, .bool t271] 63 (0, 0)) kA hb); have n6_ := Aside0.mk (below_step bA hb); clear BK233 BK238 BK243 BK248 BK267 BK272 HB; have BK233 := n0_; have BK238 := n1_; have BK243 := n2_; have BK248 := n3_; have BK267 := n4_; have BK272 := n5_; have HB := n6_; clear n0_ n1_ n2_ n3_ n4_ n5_ n6_; (try clear hb)
               refine hK.out _ _ ⟨(blk_cell BK233.out 0).trans rfl, (blk_cell BK233.out 1).trans rfl⟩ (fun hHeld => ?_)
               clear hK K
               refine norm_ (a' := ?_) ?_ ?_
               rotate_left
               ·show Act.put _ (some 112) _ = _
                simp only [Act.put, List.setIfInBounds_toArray, List.set_cons_zero, List.set_cons_succ, i64_w, i32_w]
                rfl
               refine pure_ (i := 3) (N := some 113) (v := ?_) (a' := ?_) #[true, true, true, true, false, false, true, true, true, false, false] rfl rfl (any_of HT_.out (by kernel_rfl)) (fun _ _ _ h => h) (Or.inl ⟨by rfl, ?_⟩) ?_ ?_
               rotate_left
               ·intro w'
                go_simp; with_reducible rfl
               rotate_left
               ·simp only [Act.put, List.setIfInBounds_toArray, List.set_cons_zero, List.set_cons_succ, i64_w, i32_w]
                rfl
               refine pure_ (i := 4) (N := some 114) (v := ?_) (a' := ?_) #[true, true, true, true, true, false, true, true, true, false, false] rfl rfl (any_of HT_.out (by kernel_rfl)) (fun _ _ _ h => h) (Or.inl ⟨by rfl, ?_⟩) ?_ ?_
               rotate_left
               ·intro w'
                go_simp; with_reducible rfl
               rotate_left
               ·simp only [Act.put, List.setIfInBounds_toArray, List.set_cons_zero, List.set_cons_succ, i64_w, i32_w]
                rfl
               refine one_ (i := 5) (N := some 115) #[true, true, true, true, true, true, true, true, true, false, false] rfl rfl (one_of HT_.out (by kernel_rfl)) (by decide) (fun K hK => ?_)
               refine goes_ Try.func49 (by kernel_rfl) rfl #[.int .u64 t273, .bool t274] (by rfl) rfl rfl aA ?_
               with_reducible refine (backfilllaw04_of.calls t273 t274 t275 t276 _ A115.out).mono ?_
               rintro e w147 ⟨rfl, hb⟩
               refine ⟨_, rfl, ?_⟩; have n0_ := Aside0.mk (blk_below (g := gb233) (o := .cells #[.int .u64 t231, .bool t232] 63 (0, 0)) kA hb); have n1_ := Aside0.mk (blk_below (g := gb238) (o := .cells #[.int .u64 t236, .bool t237] 63 (0, 0)) kA hb); have n2_ := Aside0.mk (blk_below (g := gb243) (o := .cells #[.int .u64 t241, .bool t242] 63 (0, 0)) kA hb); have n3_ := Aside0.mk (blk_below (g := gb248) (o := .cells #[.int .u64 t246, .bool t247] 63 (0, 0)) kA hb); have n4_ := Aside0.mk (blk_below (g := gb267) (o := .cells #[.int .u64 t265, .bool true] 63 (0, 0)) kA hb); have n5_ := Aside0.mk (blk_below (g := gb272) (o := .cells #[.int .u64 t270, .bool t271] 63 (0, 0)) kA hb); have n6_ := Aside0.mk (below_step bA hb); clear BK233 BK238 BK243 BK248 BK267 BK272 HB; have BK233 := n0_; have BK238 := n1_; have BK243 := n2_; have BK248 := n3_; have BK267 := n4_; have BK272 := n5_; have HB := n6_; clear n0_ n1_ n2_ n3_ n4_ n5_ n6_; (try clear hb)
               refine hK.out _ _ ⟨(blk_cell BK233.out 0).trans rfl, (blk_cell BK233.out 1).trans rfl⟩ (fun hHeld => ?_)
               clear hK K
               refine norm_ (a' := ?_) ?_ ?_
               rotate_left
               ·show Act.put _ (some 115) _ = _
                simp only [Act.put, List.setIfInBounds_toArray, List.set_cons_zero, List.set_cons_succ, i64_w, i32_w]
                rfl
               refine pure_ (i := 9) (N := some 119) (v := ?_) (a' := ?_) #[true, true, true, true, true, true, true, true, true, true, false] rfl rfl (any_of HT_.out (by kernel_rfl)) (fun _ _ _ h => h) (Or.inl ⟨by rfl, ?_⟩) ?_ ?_
               rotate_left
               ·intro w'
                go_simp; with_reducible rfl
               rotate_left
               ·simp only [Act.put, List.setIfInBounds_toArray, List.set_cons_zero, List.set_cons_succ, i64_w, i32_w]
                rfl
               refine pure_ (i := 10) (N := some 17) (v := ?_) (a' := ?_) #[true, true, true, true, true, true, true, true, true, true, true] rfl rfl (any_of HT_.out (by kernel_rfl)) (fun _ _ _ h => h) (Or.inl ⟨by rfl, ?_⟩) ?_ ?_
               rotate_left
               ·intro w'
                go_simp; with_reducible rfl
               rotate_left
               ·simp only [Act.put, List.setIfInBounds_toArray, List.set_cons_zero, List.set_cons_succ, i64_w, i32_w]
                rfl
               refine done_ (done_of HT_.out (by kernel_rfl)) ?_
               have hcz148_0 : w147.cell? ⟨gb267, 0, none⟩ = some (.int .u64 t265) := (blk_cell BK267.out 0).trans rfl
               have hcz148_1 : w147.cell? ⟨gb267, 1, none⟩ = some (.bool true) := (blk_cell BK267.out 1).trans rfl
               have hfz148_0 := blk_frozen BK267.out 0
               have hfz148_1 := blk_frozen BK267.out 1
               have hcz149_0 : w147.cell? ⟨gb272, 0, none⟩ = some (.int .u64 t270) := (blk_cell BK272.out 0).trans rfl
               have hcz149_1 : w147.cell? ⟨gb272, 1, none⟩ = some (.bool t271) := (blk_cell BK272.out 1).trans rfl
               have hfz149_0 := blk_frozen BK272.out 0
               have hfz149_1 := blk_frozen BK272.out 1
               try go_wp2_with (first | (go_at_call 66; (with_reducible refine (fixq_Part.calls x0_4 a1 t277 _ A122.out).mono ?_); rintro e w150 ⟨rfl, hb⟩; have n0_ := Aside0.mk (blk_below (g := gb233) (o := .cells #[.int .u64 t231, .bool t232] 63 (0, 0)) kA hb); have n1_ := Aside0.mk (blk_below (g := gb238) (o := .cells #[.int .u64 t236, .bool t237] 63 (0, 0)) kA hb); have n2_ := Aside0.mk (blk_below (g := gb243) (o := .cells #[.int .u64 t241, .bool t242] 63 (0, 0)) kA hb); have n3_ := Aside0.mk (blk_below (g := gb248) (o := .cells #[.int .u64 t246, .bool t247] 63 (0, 0)) kA hb); have n4_ := Aside0.mk (blk_below (g := gb267) (o := .cells #[.int .u64 t265, .bool true] 63 (0, 0)) kA hb); have n5_ := Aside0.mk (blk_below (g := gb272) (o := .cells #[.int .u64 t270, .bool t271] 63 (0, 0)) kA hb); have n6_ := Aside0.mk (below_step bA hb); clear BK233 BK238 BK243 BK248 BK267 BK272 HB; have BK233 := n0_; have BK238 := n1_; have BK243 := n2_; have BK248 := n3_; have BK267 := n4_; have BK272 := n5_; have HB := n6_; clear n0_ n1_ n2_ n3_ n4_ n5_ n6_; (try clear hb)) | (go_at_call 66; (with_reducible refine (fixq_Part.calls x0_4 9223372036854775808 t278 _ A124.out).mono ?_); rintro e w151 ⟨rfl, hb⟩; have n0_ := Aside0.mk (blk_below (g := gb233) (o := .cells #[.int .u64 t231, .bool t232] 63 (0, 0)) kA hb); have n1_ := Aside0.mk (blk_below (g := gb238) (o := .cells #[.int .u64 t236, .bool t237] 63 (0, 0)) kA hb); have n2_ := Aside0.mk (blk_below (g := gb243) (o := .cells #[.int .u64 t241, .bool t242] 63 (0, 0)) kA hb); have n3_ := Aside0.mk (blk_below (g := gb248) (o := .cells #[.int .u64 t246, .bool t247] 63 (0, 0)) kA hb); have n4_ := Aside0.mk (blk_below (g := gb267) (o := .cells #[.int .u64 t265, .bool true] 63 (0, 0)) kA hb); have n5_ := Aside0.mk (blk_below (g := gb272) (o := .cells #[.int .u64 t270, .bool t271] 63 (0, 0)) kA hb); have n6_ := Aside0.mk (below_step bA hb); clear BK233 BK238 BK243 BK248 BK267 BK272 HB; have BK233 := n0_; have BK238 := n1_; have BK243 := n2_; have BK248 := n3_; have BK267 := n4_; have BK272 := n5_; have HB := n6_; clear n0_ n1_ n2_ n3_ n4_ n5_ n6_; (try clear hb)) | (go_at_call 58; (with_reducible refine (fixq_DivDown.calls kj58 x0_4 4294967296 t279 t280 _ A126.out).mono ?_); rintro e w152 ⟨rfl, hb⟩; have n0_ := Aside0.mk (blk_below (g := gb233) (o := .cells #[.int .u64 t231, .bool t232] 63 (0, 0)) kA hb); have n1_ := Aside0.mk (blk_below (g := gb238) (o := .cells #[.int .u64 t236, .bool t237] 63 (0, 0)) kA hb); have n2_ := Aside0.mk (blk_below (g := gb243) (o := .cells #[.int .u64 t241, .bool t242] 63 (0, 0)) kA hb); have n3_ := Aside0.mk (blk_below (g := gb248) (o := .cells #[.int .u64 t246, .bool t247] 63 (0, 0)) kA hb); have n4_ := Aside0.mk (blk_below (g := gb267) (o := .cells #[.int .u64 t265, .bool true] 63 (0, 0)) kA hb); have n5_ := Aside0.mk (blk_below (g := gb272) (o := .cells #[.int .u64 t270, .bool t271] 63 (0, 0)) kA hb); have n6_ := Aside0.mk (below_step bA hb); clear BK233 BK238 BK243 BK248 BK267 BK272 HB; have BK233 := n0_; have BK238 := n1_; have BK243 := n2_; have BK248 := n3_; have BK267 := n4_; have BK272 := n5_; have HB := n6_; clear n0_ n1_ n2_ n3_ n4_ n5_ n6_; (try clear hb)) | (go_at_call 49; (with_reducible refine (backfilllaw04_of.calls t279 t280 t281 t282 _ A127.out).mono ?_); rintro e w153 ⟨rfl, hb⟩; have n0_ := Aside0.mk (blk_below (g := gb233) (o := .cells #[.int .u64 t231, .bool t232] 63 (0, 0)) kA hb); have n1_ := Aside0.mk (blk_below (g := gb238) (o := .cells #[.int .u64 t236, .bool t237] 63 (0, 0)) kA hb); have n2_ := Aside0.mk (blk_below (g := gb243) (o := .cells #[.int .u64 t241, .bool t242] 63 (0, 0)) kA hb); have n3_ := Aside0.mk (blk_below (g := gb248) (o := .cells #[.int .u64 t246, .bool t247] 63 (0, 0)) kA hb); have n4_ := Aside0.mk (blk_below (g := gb267) (o := .cells #[.int .u64 t265, .bool true] 63 (0, 0)) kA hb); have n5_ := Aside0.mk (blk_below (g := gb272) (o := .cells #[.int .u64 t270, .bool t271] 63 (0, 0)) kA hb); have n6_ := Aside0.mk (below_step bA hb); clear BK233 BK238 BK243 BK248 BK267 BK272 HB; have BK233 := n0_; have BK238 := n1_; have BK243 := n2_; have BK248 := n3_; have BK267 := n4_; have BK272 := n5_; have HB := n6_; clear n0_ n1_ n2_ n3_ n4_ n5_ n6_; (try clear hb)))
               go_ret
               exact ⟨by first | rfl | (simp [errW_none, errW_some] <;> rfl) | (simp [*, errW_none, errW_some] <;> rfl), bA⟩
              ·rw [if_neg c125] at H
               exact absurd H (by simp)
             ·rw [if_neg c123] at H
              exact absurd H (by simp)
            ·rw [if_neg c121] at H
             exact absurd H (by simp)
           ·replace c120 := Bool.eq_false_iff.mpr c120
            subst c120
            have H1 : ((fixq_Part.f x0_4 a1).bind fun t283 => (if t283 ≤ x0_4 then ((fixq_Part.f x0_4 9223372036854775808).bind fun t284 => (if t284 = x0_4 then ((fixq_DivDown.f kj58 x0_4 4294967296).bind fun bt285 => ((backfilllaw04_of.f bt285.1 bt285.2).bind fun bt287 => (some (bt287.1 == x0_4 && (bt287.2))))) else (none))) else (none))) = some r := by rw [if_neg (show ¬ (false = true) by decide)] at H; exact H
            clear H
            have H := H1
            clear H1; replace H := Option.bind_eq_some_iff.mp H; obtain ⟨t283, A1540, H⟩ := H; replace H : (if t283 ≤ x0_4 then ((fixq_Part.f x0_4 9223372036854775808).bind fun t284 => (if t284 = x0_4 then ((fixq_DivDown.f kj58 x0_4 4294967296).bind fun bt285 => ((backfilllaw04_of.f bt285.1 bt285.2).bind fun bt287 => (some (bt287.1 == x0_4 && (bt287.2))))) else (none))) else (none)) = some r := H; have A154 := Aside0.mk A1540; clear A1540
            by_cases c155 : t283 ≤ x0_4
            ·rw [if_pos c155] at H
             have c155b0 : decide (t283 ≤ x0_4) = true := decide_eq_true c155
             clear c155; replace H := Option.bind_eq_some_iff.mp H; obtain ⟨t284, A1560, H⟩ := H; replace H : (if t284 = x0_4 then ((fixq_DivDown.f kj58 x0_4 4294967296).bind fun bt285 => ((backfilllaw04_of.f bt285.1 bt285.2).bind fun bt287 => (some (bt287.1 == x0_4 && (bt287.2))))) else (none)) = some r := H; have A156 := Aside0.mk A1560; clear A1560
             by_cases c157 : t284 = x0_4
             ·rw [if_pos c157] at H
              have c157b0 : (t284 == x0_4) = true := beq_iff_eq.mpr c157
              have c157b1 : (t284 != x0_4) = false := bne_eq_false_iff_eq.mpr c157
              clear c157; replace H := Option.bind_eq_some_iff.mp H; obtain ⟨⟨t285, t286⟩, A1580, H⟩ := H; replace H : ((backfilllaw04_of.f t285 t286).bind fun bt287 => (some (bt287.1 == x0_4 && (bt287.2)))) = some r := H; have A158 := Aside0.mk A1580; clear A1580; replace H := Option.bind_eq_some_iff.mp H; obtain ⟨⟨t287, t288⟩, A1590, H⟩ := H; replace H : (some (t287 == x0_4 && (t288))) = some r := H; have A159 := Aside0.mk A1590; clear A1590
              obtain rfl := Option.some.inj H
              try go_wp2_with (first | ((with_reducible refine gate_callee (f := 50) rfl ?_); refine goesL_ (some 99) rfl rfl Try.func50 (by kernel_rfl) rfl #[.int .u64 x0_4, .int .u64 a1] rfl aA ?_; (with_reducible refine (fixq_Add.calls x0_4 a1 t263 t264 _ A110.out).mono ?_); rintro e w160 ⟨rfl, hb⟩; refine ⟨_, rfl, ?_⟩; have n0_ := Aside0.mk (blk_below (g := gb233) (o := .cells #[.int .u64 t231, .bool t232] 63 (0, 0)) kA hb); have n1_ := Aside0.mk (blk_below (g := gb238) (o := .cells #[.int .u64 t236, .bool t237] 63 (0, 0)) kA hb); have n2_ := Aside0.mk (blk_below (g := gb243) (o := .cells #[.int .u64 t241, .bool t242] 63 (0, 0)) kA hb); have n3_ := Aside0.mk (blk_below (g := gb248) (o := .cells #[.int .u64 t246, .bool t247] 63 (0, 0)) kA hb); have n4_ := Aside0.mk (below_step bA hb); clear BK233 BK238 BK243 BK248 HB; have BK233 := n0_; have BK238 := n1_; have BK243 := n2_; have BK248 := n3_; have HB := n4_; clear n0_ n1_ n2_ n3_ n4_; (try clear hb)) | ((with_reducible refine gate_callee (f := 49) rfl ?_); refine goesL_ (some 102) rfl rfl Try.func49 (by kernel_rfl) rfl #[.int .u64 t263, .bool t264] rfl aA ?_; (with_reducible refine (backfilllaw04_of.calls t263 t264 t265 false _ A111.out).mono ?_); rintro e w161 ⟨rfl, hb⟩; refine ⟨_, rfl, ?_⟩; have n0_ := Aside0.mk (blk_below (g := gb233) (o := .cells #[.int .u64 t231, .bool t232] 63 (0, 0)) kA hb); have n1_ := Aside0.mk (blk_below (g := gb238) (o := .cells #[.int .u64 t236, .bool t237] 63 (0, 0)) kA hb); have n2_ := Aside0.mk (blk_below (g := gb243) (o := .cells #[.int .u64 t241, .bool t242] 63 (0, 0)) kA hb); have n3_ := Aside0.mk (blk_below (g := gb248) (o := .cells #[.int .u64 t246, .bool t247] 63 (0, 0)) kA hb); have n4_ := Aside0.mk (below_step bA hb); clear BK233 BK238 BK243 BK248 HB; have BK233 := n0_; have BK238 := n1_; have BK243 := n2_; have BK248 := n3_; have HB := n4_; clear n0_ n1_ n2_ n3_ n4_; (try clear hb)) | ((with_reducible refine gate_dst (N := 15) rfl ?_); refine bxA 15 #[.int .u64 0, .bool false] 63 ?_; intro gb267 hg w162 hbox hb; have n0_ := Aside0.mk (blk_below (g := gb233) (o := .cells #[.int .u64 t231, .bool t232] 63 (0, 0)) kA hb); have n1_ := Aside0.mk (blk_below (g := gb238) (o := .cells #[.int .u64 t236, .bool t237] 63 (0, 0)) kA hb); have n2_ := Aside0.mk (blk_below (g := gb243) (o := .cells #[.int .u64 t241, .bool t242] 63 (0, 0)) kA hb); have n3_ := Aside0.mk (blk_below (g := gb248) (o := .cells #[.int .u64 t246, .bool t247] 63 (0, 0)) kA hb); have n4_ := Aside0.mk (below_step bA hb); have n5_ := Aside0.mk (hbox); have n6_ := Aside0.mk ((by rw [hg]; exact (below_size bA) : w.heap.size ≤ gb267)); have n7_ := Aside0.mk ((by rw [hg]; exact (below_size bA) : w.heap.size ≤ gb267)); have n8_ := Aside0.mk ((by rw [hg]; exact Nat.ne_of_lt (blk_lt (g := gb233) (o := .cells #[.int .u64 t231, .bool t232] 63 (0, 0)) kA) : gb233 ≠ gb267)); have n9_ := Aside0.mk ((by rw [hg]; exact Nat.ne_of_gt (blk_lt (g := gb233) (o := .cells #[.int .u64 t231, .bool t232] 63 (0, 0)) kA) : gb267 ≠ gb233)); have n10_ := Aside0.mk ((by rw [hg]; exact Nat.ne_of_lt (blk_lt (g := gb238) (o := .cells #[.int .u64 t236, .bool t237] 63 (0, 0)) kA) : gb238 ≠ gb267)); have n11_ := Aside0.mk ((by rw [hg]; exact Nat.ne_of_gt (blk_lt (g := gb238) (o := .cells #[.int .u64 t236, .bool t237] 63 (0, 0)) kA) : gb267 ≠ gb238)); have n12_ := Aside0.mk ((by rw [hg]; exact Nat.ne_of_lt (blk_lt (g := gb243) (o := .cells #[.int .u64 t241, .bool t242] 63 (0, 0)) kA) : gb243 ≠ gb267)); have n13_ := Aside0.mk ((by rw [hg]; exact Nat.ne_of_gt (blk_lt (g := gb243) (o := .cells #[.int .u64 t241, .bool t242] 63 (0, 0)) kA) : gb267 ≠ gb243)); have n14_ := Aside0.mk ((by rw [hg]; exact Nat.ne_of_lt (blk_lt (g := gb248) (o := .cells #[.int .u64 t246, .bool t247] 63 (0, 0)) kA) : gb248 ≠ gb267)); have n15_ := Aside0.mk ((by rw [hg]; exact Nat.ne_of_gt (blk_lt (g := gb248) (o := .cells #[.int .u64 t246, .bool t247] 63 (0, 0)) kA) : gb267 ≠ gb248)); clear BK233 BK238 BK243 BK248 HB; have BK233 := n0_; have BK238 := n1_; have BK243 := n2_; have BK248 := n3_; have HB := n4_; have BK267 := n5_; have GW267 := n6_; have GE267 := n7_; have NB233_267 := n8_; have NB267_233 := n9_; have NB238_267 := n10_; have NB267_238 := n11_; have NB243_267 := n12_; have NB267_243 := n13_; have NB248_267 := n14_; have NB267_248 := n15_; clear n0_ n1_ n2_ n3_ n4_ n5_ n6_ n7_ n8_ n9_ n10_ n11_ n12_ n13_ n14_ n15_ hb hbox hg; have hnb163 := NB267_233.out; have hnc163 := NB233_267.out; have hnb164 := NB267_238.out; have hnc164 := NB238_267.out; have hnb165 := NB267_243.out; have hnc165 := NB243_267.out; have hnb166 := NB267_248.out; have hnc166 := NB248_267.out; have hcz167_0 : w162.cell? ⟨gb267, 0, none⟩ = some (.int .u64 0) := (blk_cell BK267.out 0).trans rfl; have hcz167_1 : w162.cell? ⟨gb267, 1, none⟩ = some (.bool false) := (blk_cell BK267.out 1).trans rfl; have hfz167_0 := blk_frozen BK267.out 0; have hfz167_1 := blk_frozen BK267.out 1) | ((with_reducible refine gate_callee (f := 52) rfl ?_); refine goesL_ (some 106) rfl rfl Try.func52 (by kernel_rfl) rfl #[.int .u64 t265, .int .u64 a1] rfl aA ?_; (with_reducible refine (fixq_Sub.calls t265 a1 t268 t269 _ A112.out).mono ?_); rintro e w' ⟨rfl, ⟨nd, rfl⟩⟩; refine ⟨_, rfl, ?_⟩) | ((with_reducible refine gate_callee (f := 49) rfl ?_); refine goesL_ (some 109) rfl rfl Try.func49 (by kernel_rfl) rfl #[.int .u64 t268, .bool t269] rfl aA ?_; (with_reducible refine (backfilllaw04_of.calls t268 t269 t270 t271 _ A113.out).mono ?_); rintro e w168 ⟨rfl, hb⟩; refine ⟨_, rfl, ?_⟩; have n0_ := Aside0.mk (blk_below (g := gb233) (o := .cells #[.int .u64 t231, .bool t232] 63 (0, 0)) (by (with_reducible repeat (first | refine blk_drewN ?_ _ | refine blk_drew ?_ | refine blk_alloc ?_ _)); refine blk_far ?_ NB233_267.out _; (with_reducible repeat (first | refine blk_drewN ?_ _ | refine blk_drew ?_ | refine blk_alloc ?_ _)); refine blk_far ?_ NB233_267.out _; (with_reducible repeat (first | refine blk_drewN ?_ _ | refine blk_drew ?_ | refine blk_alloc ?_ _)); exact BK233.out) hb); have n1_ := Aside0.mk (blk_below (g := gb238) (o := .cells #[.int .u64 t236, .bool t237] 63 (0, 0)) (by (with_reducible repeat (first | refine blk_drewN ?_ _ | refine blk_drew ?_ | refine blk_alloc ?_ _)); refine blk_far ?_ NB238_267.out _; (with_reducible repeat (first | refine blk_drewN ?_ _ | refine blk_drew ?_ | refine blk_alloc ?_ _)); refine blk_far ?_ NB238_267.out _; (with_reducible repeat (first | refine blk_drewN ?_ _ | refine blk_drew ?_ | refine blk_alloc ?_ _)); exact BK238.out) hb); have n2_ := Aside0.mk (blk_below (g := gb243) (o := .cells #[.int .u64 t241, .bool t242] 63 (0, 0)) (by (with_reducible repeat (first | refine blk_drewN ?_ _ | refine blk_drew ?_ | refine blk_alloc ?_ _)); refine blk_far ?_ NB243_267.out _; (with_reducible repeat (first | refine blk_drewN ?_ _ | refine blk_drew ?_ | refine blk_alloc ?_ _)); refine blk_far ?_ NB243_267.out _; (with_reducible repeat (first | refine blk_drewN ?_ _ | refine blk_drew ?_ | refine blk_alloc ?_ _)); exact BK243.out) hb); have n3_ := Aside0.mk (blk_below (g := gb248) (o := .cells #[.int .u64 t246, .bool t247] 63 (0, 0)) (by (with_reducible repeat (first | refine blk_drewN ?_ _ | refine blk_drew ?_ | refine blk_alloc ?_ _)); refine blk_far ?_ NB248_267.out _; (with_reducible repeat (first | refine blk_drewN ?_ _ | refine blk_drew ?_ | refine blk_alloc ?_ _)); refine blk_far ?_ NB248_267.out _; (with_reducible repeat (first | refine blk_drewN ?_ _ | refine blk_drew ?_ | refine blk_alloc ?_ _)); exact BK248.out) hb); have n4_ := Aside0.mk (blk_below (g := gb267) (o := .cells #[.int .u64 t265, .bool false] 63 (0, 0)) (by (with_reducible repeat (first | refine blk_drewN ?_ _ | refine blk_drew ?_ | refine blk_alloc ?_ _)); refine blk_put (cs := #[.int .u64 t265, .bool false]) ?_ 1 _ rfl; (with_reducible repeat (first | refine blk_drewN ?_ _ | refine blk_drew ?_ | refine blk_alloc ?_ _)); refine blk_put (cs := #[.int .u64 0, .bool false]) ?_ 0 _ rfl; (with_reducible repeat (first | refine blk_drewN ?_ _ | refine blk_drew ?_ | refine blk_alloc ?_ _)); exact BK267.out) hb); have n5_ := Aside0.mk (below_step bA hb); clear BK233 BK238 BK243 BK248 BK267 HB; have BK233 := n0_; have BK238 := n1_; have BK243 := n2_; have BK248 := n3_; have BK267 := n4_; have HB := n5_; clear n0_ n1_ n2_ n3_ n4_ n5_; (try clear hb)) | ((with_reducible refine gate_dst (N := 16) rfl ?_); refine bxA 16 #[.int .u64 0, .bool false] 63 ?_; intro gb272 hg w169 hbox hb; have n0_ := Aside0.mk (blk_below (g := gb233) (o := .cells #[.int .u64 t231, .bool t232] 63 (0, 0)) kA hb); have n1_ := Aside0.mk (blk_below (g := gb238) (o := .cells #[.int .u64 t236, .bool t237] 63 (0, 0)) kA hb); have n2_ := Aside0.mk (blk_below (g := gb243) (o := .cells #[.int .u64 t241, .bool t242] 63 (0, 0)) kA hb); have n3_ := Aside0.mk (blk_below (g := gb248) (o := .cells #[.int .u64 t246, .bool t247] 63 (0, 0)) kA hb); have n4_ := Aside0.mk (blk_below (g := gb267) (o := .cells #[.int .u64 t265, .bool false] 63 (0, 0)) kA hb); have n5_ := Aside0.mk (below_step bA hb); have n6_ := Aside0.mk (hbox); have n7_ := Aside0.mk ((by rw [hg]; exact (below_size bA) : w.heap.size ≤ gb272)); have n8_ := Aside0.mk ((by rw [hg]; exact (below_size bA) : w.heap.size ≤ gb272)); have n9_ := Aside0.mk ((by rw [hg]; exact Nat.ne_of_lt (blk_lt (g := gb233) (o := .cells #[.int .u64 t231, .bool t232] 63 (0, 0)) kA) : gb233 ≠ gb272)); have n10_ := Aside0.mk ((by rw [hg]; exact Nat.ne_of_gt (blk_lt (g := gb233) (o := .cells #[.int .u64 t231, .bool t232] 63 (0, 0)) kA) : gb272 ≠ gb233)); have n11_ := Aside0.mk ((by rw [hg]; exact Nat.ne_of_lt (blk_lt (g := gb238) (o := .cells #[.int .u64 t236, .bool t237] 63 (0, 0)) kA) : gb238 ≠ gb272)); have n12_ := Aside0.mk ((by rw [hg]; exact Nat.ne_of_gt (blk_lt (g := gb238) (o := .cells #[.int .u64 t236, .bool t237] 63 (0, 0)) kA) : gb272 ≠ gb238)); have n13_ := Aside0.mk ((by rw [hg]; exact Nat.ne_of_lt (blk_lt (g := gb243) (o := .cells #[.int .u64 t241, .bool t242] 63 (0, 0)) kA) : gb243 ≠ gb272)); have n14_ := Aside0.mk ((by rw [hg]; exact Nat.ne_of_gt (blk_lt (g := gb243) (o := .cells #[.int .u64 t241, .bool t242] 63 (0, 0)) kA) : gb272 ≠ gb243)); have n15_ := Aside0.mk ((by rw [hg]; exact Nat.ne_of_lt (blk_lt (g := gb248) (o := .cells #[.int .u64 t246, .bool t247] 63 (0, 0)) kA) : gb248 ≠ gb272)); have n16_ := Aside0.mk ((by rw [hg]; exact Nat.ne_of_gt (blk_lt (g := gb248) (o := .cells #[.int .u64 t246, .bool t247] 63 (0, 0)) kA) : gb272 ≠ gb248)); have n17_ := Aside0.mk ((by rw [hg]; exact Nat.ne_of_lt (blk_lt (g := gb267) (o := .cells #[.int .u64 t265, .bool false] 63 (0, 0)) kA) : gb267 ≠ gb272)); have n18_ := Aside0.mk ((by rw [hg]; exact Nat.ne_of_gt (blk_lt (g := gb267) (o := .cells #[.int .u64 t265, .bool false] 63 (0, 0)) kA) : gb272 ≠ gb267)); clear BK233 BK238 BK243 BK248 BK267 HB; have BK233 := n0_; have BK238 := n1_; have BK243 := n2_; have BK248 := n3_; have BK267 := n4_; have HB := n5_; have BK272 := n6_; have GW272 := n7_; have GE272 := n8_; have NB233_272 := n9_; have NB272_233 := n10_; have NB238_272 := n11_; have NB272_238 := n12_; have NB243_272 := n13_; have NB272_243 := n14_; have NB248_272 := n15_; have NB272_248 := n16_; have NB267_272 := n17_; have NB272_267 := n18_; clear n0_ n1_ n2_ n3_ n4_ n5_ n6_ n7_ n8_ n9_ n10_ n11_ n12_ n13_ n14_ n15_ n16_ n17_ n18_ hb hbox hg; have hnb170 := NB272_233.out; have hnc170 := NB233_272.out; have hnb171 := NB272_238.out; have hnc171 := NB238_272.out; have hnb172 := NB272_243.out; have hnc172 := NB243_272.out; have hnb173 := NB272_248.out; have hnc173 := NB248_272.out; have hnb174 := NB272_267.out; have hnc174 := NB267_272.out; have hcz175_0 : w169.cell? ⟨gb272, 0, none⟩ = some (.int .u64 0) := (blk_cell BK272.out 0).trans rfl; have hcz175_1 : w169.cell? ⟨gb272, 1, none⟩ = some (.bool false) := (blk_cell BK272.out 1).trans rfl; have hfz175_0 := blk_frozen BK272.out 0; have hfz175_1 := blk_frozen BK272.out 1))
              have n0_ : Aside0 (((w169.setCell ⟨gb272, 0, none⟩ (.int .u64 t270)).setCell ⟨gb272, 1, none⟩ (.bool t271)).heap[gb233]? = some (.cells #[.int .u64 t231, .bool t232] 63 (0, 0))) := ⟨by (with_reducible repeat (first | refine blk_drewN ?_ _ | refine blk_drew ?_ | refine blk_alloc ?_ _)); refine blk_far ?_ NB233_272.out _; (with_reducible repeat (first | refine blk_drewN ?_ _ | refine blk_drew ?_ | refine blk_alloc ?_ _)); refine blk_far ?_ NB233_272.out _; (with_reducible repeat (first | refine blk_drewN ?_ _ | refine blk_drew ?_ | refine blk_alloc ?_ _)); exact BK233.out⟩
              have n1_ : Aside0 (((w169.setCell ⟨gb272, 0, none⟩ (.int .u64 t270)).setCell ⟨gb272, 1, none⟩ (.bool t271)).heap[gb238]? = some (.cells #[.int .u64 t236, .bool t237] 63 (0, 0))) := ⟨by (with_reducible repeat (first | refine blk_drewN ?_ _ | refine blk_drew ?_ | refine blk_alloc ?_ _)); refine blk_far ?_ NB238_272.out _; (with_reducible repeat (first | refine blk_drewN ?_ _ | refine blk_drew ?_ | refine blk_alloc ?_ _)); refine blk_far ?_ NB238_272.out _; (with_reducible repeat (first | refine blk_drewN ?_ _ | refine blk_drew ?_ | refine blk_alloc ?_ _)); exact BK238.out⟩
              have n2_ : Aside0 (((w169.setCell ⟨gb272, 0, none⟩ (.int .u64 t270)).setCell ⟨gb272, 1, none⟩ (.bool t271)).heap[gb243]? = some (.cells #[.int .u64 t241, .bool t242] 63 (0, 0))) := ⟨by (with_reducible repeat (first | refine blk_drewN ?_ _ | refine blk_drew ?_ | refine blk_alloc ?_ _)); refine blk_far ?_ NB243_272.out _; (with_reducible repeat (first | refine blk_drewN ?_ _ | refine blk_drew ?_ | refine blk_alloc ?_ _)); refine blk_far ?_ NB243_272.out _; (with_reducible repeat (first | refine blk_drewN ?_ _ | refine blk_drew ?_ | refine blk_alloc ?_ _)); exact BK243.out⟩
              have n3_ : Aside0 (((w169.setCell ⟨gb272, 0, none⟩ (.int .u64 t270)).setCell ⟨gb272, 1, none⟩ (.bool t271)).heap[gb248]? = some (.cells #[.int .u64 t246, .bool t247] 63 (0, 0))) := ⟨by (with_reducible repeat (first | refine blk_drewN ?_ _ | refine blk_drew ?_ | refine blk_alloc ?_ _)); refine blk_far ?_ NB248_272.out _; (with_reducible repeat (first | refine blk_drewN ?_ _ | refine blk_drew ?_ | refine blk_alloc ?_ _)); refine blk_far ?_ NB248_272.out _; (with_reducible repeat (first | refine blk_drewN ?_ _ | refine blk_drew ?_ | refine blk_alloc ?_ _)); exact BK248.out⟩
              have n4_ : Aside0 (((w169.setCell ⟨gb272, 0, none⟩ (.int .u64 t270)).setCell ⟨gb272, 1, none⟩ (.bool t271)).heap[gb267]? = some (.cells #[.int .u64 t265, .bool false] 63 (0, 0))) := ⟨by (with_reducible repeat (first | refine blk_drewN ?_ _ | refine blk_drew ?_ | refine blk_alloc ?_ _)); refine blk_far ?_ NB267_272.out _; (with_reducible repeat (first | refine blk_drewN ?_ _ | refine blk_drew ?_ | refine blk_alloc ?_ _)); refine blk_far ?_ NB267_272.out _; (with_reducible repeat (first | refine blk_drewN ?_ _ | refine blk_drew ?_ | refine blk_alloc ?_ _)); exact BK267.out⟩
              have n5_ : Aside0 (((w169.setCell ⟨gb272, 0, none⟩ (.int .u64 t270)).setCell ⟨gb272, 1, none⟩ (.bool t271)).heap[gb272]? = some (.cells #[.int .u64 t270, .bool t271] 63 (0, 0))) := ⟨by (with_reducible repeat (first | refine blk_drewN ?_ _ | refine blk_drew ?_ | refine blk_alloc ?_ _)); refine blk_put (cs := #[.int .u64 t270, .bool false]) ?_ 1 _ rfl; (with_reducible repeat (first | refine blk_drewN ?_ _ | refine blk_drew ?_ | refine blk_alloc ?_ _)); refine blk_put (cs := #[.int .u64 0, .bool false]) ?_ 0 _ rfl; (with_reducible repeat (first | refine blk_drewN ?_ _ | refine blk_drew ?_ | refine blk_alloc ?_ _)); exact BK272.out⟩
              have n6_ : Aside0 (Below w.heap.size w ((w169.setCell ⟨gb272, 0, none⟩ (.int .u64 t270)).setCell ⟨gb272, 1, none⟩ (.bool t271))) := ⟨bA⟩
              (try clear BK233); (try clear BK238); (try clear BK243); (try clear BK248); (try clear BK267); (try clear BK272); (try clear HB)
              generalize ((w169.setCell ⟨gb272, 0, none⟩ (.int .u64 t270)).setCell ⟨gb272, 1, none⟩ (.bool t271)) = w176 at n0_ n1_ n2_ n3_ n4_ n5_ n6_ ⊢
              have BK233 := n0_; have BK238 := n1_; have BK243 := n2_; have BK248 := n3_; have BK267 := n4_; have BK272 := n5_; have HB := n6_; clear n0_ n1_ n2_ n3_ n4_ n5_ n6_; have n0_ := Aside0.mk (blk_drew BK233.out); have n1_ := Aside0.mk (blk_drew BK238.out); have n2_ := Aside0.mk (blk_drew BK243.out); have n3_ := Aside0.mk (blk_drew BK248.out); have n4_ := Aside0.mk (blk_drew BK267.out); have n5_ := Aside0.mk (blk_drew BK272.out); have n6_ := Aside0.mk (below_drew1 HB.out); clear BK233 BK238 BK243 BK248 BK267 BK272 HB; have BK233 := n0_; have BK238 := n1_; have BK243 := n2_; have BK248 := n3_; have BK267 := n4_; have BK272 := n5_; have HB := n6_; clear n0_ n1_ n2_ n3_ n4_ n5_ n6_
              refine start_ (n := 11) (S := fun w' => w'.cell? ⟨gb233, 0, none⟩ = some (.int .u64 t231) ∧ w'.cell? ⟨gb233, 1, none⟩ = some (.bool t232)) (ds := []) #[false, false, false, false, false, false, false, false, false, false, false] (by kernel_rfl) rfl rfl ⟨(blk_cell BK233.out 0).trans rfl, (blk_cell BK233.out 1).trans rfl⟩ (fun hHeld => ?_); refine with_tabW backfilllaw04_FixqLaws.tab14 backfilllaw04_FixqLaws.bits14 (fun HT_ HW_ => ?_)
              generalize w176.drew = w177 at BK233 BK238 BK243 BK248 BK267 BK272 HB hHeld ⊢
              refine pure_ (i := 0) (N := some 110) (v := ?_) (a' := ?_) #[true, false, false, false, false, false, false, false, false, false, false] rfl rfl (any_of HT_.out (by kernel_rfl)) (fun _ _ _ h => h) (Or.inl ⟨by rfl, ?_⟩) ?_ ?_
              rotate_left
              ·intro w'
               go_simp; with_reducible rfl
              rotate_left
              ·simp only [Act.put, List.setIfInBounds_toArray, List.set_cons_zero, List.set_cons_succ, i64_w, i32_w]
               rfl
              refine pure_ (i := 6) (N := some 116) (v := ?_) (a' := ?_) #[true, false, false, false, false, false, true, false, false, false, false] rfl rfl (any_of HT_.out (by kernel_rfl)) (fun _ _ _ h => h) (Or.inl ⟨by rfl, ?_⟩) ?_ ?_
              rotate_left
              ·intro w'
               go_simp; with_reducible rfl
              rotate_left
              ·simp only [Act.put, List.setIfInBounds_toArray, List.set_cons_zero, List.set_cons_succ, i64_w, i32_w]
               rfl
              refine take_ (i := 1) (N := some 111) (v := ?_) (a' := ?_) #[true, true, false, false, false, false, true, false, false, false, false] rfl rfl (take_ofW HT_.out HW_.out (by kernel_rfl)) (fun _ _ _ h => h) (Or.inl ⟨by rfl, ?_⟩) hHeld ?_ ?_
              rotate_left
              ·rintro w' ⟨s0, s1⟩
               go_simp; with_reducible rfl
              rotate_left
              ·simp only [Act.put, List.setIfInBounds_toArray, List.set_cons_zero, List.set_cons_succ, i64_w, i32_w]
               rfl
              refine take_ (i := 7) (N := some 117) (v := ?_) (a' := ?_) #[true, true, false, false, false, false, true, true, false, false, false] rfl rfl (take_ofW HT_.out HW_.out (by kernel_rfl)) (fun _ _ _ h => h) (Or.inl ⟨by rfl, ?_⟩) hHeld ?_ ?_
              rotate_left
              ·rintro w' ⟨s0, s1⟩
               go_simp; with_reducible rfl
              rotate_left
              ·simp only [Act.put, List.setIfInBounds_toArray, List.set_cons_zero, List.set_cons_succ, i64_w, i32_w]
               rfl
              refine pure_ (i := 8) (N := some 118) (v := ?_) (a' := ?_) #[true, true, false, false, false, false, true, true, true, false, false] rfl rfl (any_of HT_.out (by kernel_rfl)) (fun _ _ _ h => h) (Or.inl ⟨by rfl, ?_⟩) ?_ ?_
              rotate_left
              ·intro w'
               go_simp; with_reducible rfl
              rotate_left
              ·simp only [Act.put, List.setIfInBounds_toArray, List.set_cons_zero, List.set_cons_succ, i64_w, i32_w]
               rfl
              refine one_ (i := 2) (N := some 112) #[true, true, true, false, false, false, true, true, true, false, false] rfl rfl (one_of HT_.out (by kernel_rfl)) (by decide) (fun K hK => ?_)
              refine goes_ Try.func56 (by kernel_rfl) rfl #[.int .u64 t231, .int .u64 4294967296] (by rfl) rfl rfl aA ?_
              with_reducible refine (fixq_MulUp.calls kj58 t231 4294967296 t273 t274 _ A114.out).mono ?_
              rintro e w178 ⟨rfl, hb⟩
              refine ⟨_, rfl, ?_⟩; have n0_ := Aside0.mk (blk_below (g := gb233) (o := .cells #[.int .u64 t231, .bool t232] 63 (0, 0)) kA hb); have n1_ := Aside0.mk (blk_below (g := gb238) (o := .cells #[.int .u64 t236, .bool t237] 63 (0, 0)) kA hb); have n2_ := Aside0.mk (blk_below (g := gb243) (o := .cells #[.int .u64 t241, .bool t242] 63 (0, 0)) kA hb); have n3_ := Aside0.mk (blk_below (g := gb248) (o := .cells #[.int .u64 t246, .bool t247] 63 (0, 0)) kA hb); have n4_ := Aside0.mk (blk_below (g := gb267) (o := .cells #[.int .u64 t265, .bool false] 63 (0, 0)) kA hb); have n5_ := Aside0.mk (blk_below (g := gb272) (o := .cells #[.int .u64 t270, .bool t271] 63 (0, 0)) kA hb); have n6_ := Aside0.mk (below_step bA hb); clear BK233 BK238 BK243 BK248 BK267 BK272 HB; have BK233 := n0_; have BK238 := n1_; have BK243 := n2_; have BK248 := n3_; have BK267 := n4_; have BK272 := n5_; have HB := n6_; clear n0_ n1_ n2_ n3_ n4_ n5_ n6_; (try clear hb)
              refine hK.out _ _ ⟨(blk_cell BK233.out 0).trans rfl, (blk_cell BK233.out 1).trans rfl⟩ (fun hHeld => ?_)
              clear hK K
              refine norm_ (a' := ?_) ?_ ?_
              rotate_left
              ·show Act.put _ (some 112) _ = _
               simp only [Act.put, List.setIfInBounds_toArray, List.set_cons_zero, List.set_cons_succ, i64_w, i32_w]
               rfl
              refine pure_ (i := 3) (N := some 113) (v := ?_) (a' := ?_) #[true, true, true, true, false, false, true, true, true, false, false] rfl rfl (any_of HT_.out (by kernel_rfl)) (fun _ _ _ h => h) (Or.inl ⟨by rfl, ?_⟩) ?_ ?_
              rotate_left
              ·intro w'
               go_simp; with_reducible rfl
              rotate_left
              ·simp only [Act.put, List.setIfInBounds_toArray, List.set_cons_zero, List.set_cons_succ, i64_w, i32_w]
               rfl
              refine pure_ (i := 4) (N := some 114) (v := ?_) (a' := ?_) #[true, true, true, true, true, false, true, true, true, false, false] rfl rfl (any_of HT_.out (by kernel_rfl)) (fun _ _ _ h => h) (Or.inl ⟨by rfl, ?_⟩) ?_ ?_
              rotate_left
              ·intro w'
               go_simp; with_reducible rfl
              rotate_left
              ·simp only [Act.put, List.setIfInBounds_toArray, List.set_cons_zero, List.set_cons_succ, i64_w, i32_w]
               rfl
              refine one_ (i := 5) (N := some 115) #[true, true, true, true, true, true, true, true, true, false, false] rfl rfl (one_of HT_.out (by kernel_rfl)) (by decide) (fun K hK => ?_)
              refine goes_ Try.func49 (by kernel_rfl) rfl #[.int .u64 t273, .bool t274] (by rfl) rfl rfl aA ?_
              with_reducible refine (backfilllaw04_of.calls t273 t274 t275 t276 _ A115.out).mono ?_
              rintro e w179 ⟨rfl, hb⟩
              refine ⟨_, rfl, ?_⟩; have n0_ := Aside0.mk (blk_below (g := gb233) (o := .cells #[.int .u64 t231, .bool t232] 63 (0, 0)) kA hb); have n1_ := Aside0.mk (blk_below (g := gb238) (o := .cells #[.int .u64 t236, .bool t237] 63 (0, 0)) kA hb); have n2_ := Aside0.mk (blk_below (g := gb243) (o := .cells #[.int .u64 t241, .bool t242] 63 (0, 0)) kA hb); have n3_ := Aside0.mk (blk_below (g := gb248) (o := .cells #[.int .u64 t246, .bool t247] 63 (0, 0)) kA hb); have n4_ := Aside0.mk (blk_below (g := gb267) (o := .cells #[.int .u64 t265, .bool false] 63 (0, 0)) kA hb); have n5_ := Aside0.mk (blk_below (g := gb272) (o := .cells #[.int .u64 t270, .bool t271] 63 (0, 0)) kA hb); have n6_ := Aside0.mk (below_step bA hb); clear BK233 BK238 BK243 BK248 BK267 BK272 HB; have BK233 := n0_; have BK238 := n1_; have BK243 := n2_; have BK248 := n3_; have BK267 := n4_; have BK272 := n5_; have HB := n6_; clear n0_ n1_ n2_ n3_ n4_ n5_ n6_; (try clear hb)
              refine hK.out _ _ ⟨(blk_cell BK233.out 0).trans rfl, (blk_cell BK233.out 1).trans rfl⟩ (fun hHeld => ?_)
              clear hK K
              refine norm_ (a' := ?_) ?_ ?_
              rotate_left
              ·show Act.put _ (some 115) _ = _
               simp only [Act.put, List.setIfInBounds_toArray, List.set_cons_zero, List.set_cons_succ, i64_w, i32_w]
               rfl
              refine pure_ (i := 9) (N := some 119) (v := ?_) (a' := ?_) #[true, true, true, true, true, true, true, true, true, true, false] rfl rfl (any_of HT_.out (by kernel_rfl)) (fun _ _ _ h => h) (Or.inl ⟨by rfl, ?_⟩) ?_ ?_
              rotate_left
              ·intro w'
               go_simp; with_reducible rfl
              rotate_left
              ·simp only [Act.put, List.setIfInBounds_toArray, List.set_cons_zero, List.set_cons_succ, i64_w, i32_w]
               rfl
              refine pure_ (i := 10) (N := some 17) (v := ?_) (a' := ?_) #[true, true, true, true, true, true, true, true, true, true, true] rfl rfl (any_of HT_.out (by kernel_rfl)) (fun _ _ _ h => h) (Or.inl ⟨by rfl, ?_⟩) ?_ ?_
              rotate_left
              ·intro w'
               go_simp; with_reducible rfl
              rotate_left
              ·simp only [Act.put, List.setIfInBounds_toArray, List.set_cons_zero, List.set_cons_succ, i64_w, i32_w]
               rfl
              refine done_ (done_of HT_.out (by kernel_rfl)) ?_
              have hcz180_0 : w179.cell? ⟨gb267, 0, none⟩ = some (.int .u64 t265) := (blk_cell BK267.out 0).trans rfl
              have hcz180_1 : w179.cell? ⟨gb267, 1, none⟩ = some (.bool false) := (blk_cell BK267.out 1).trans rfl
              have hfz180_0 := blk_frozen BK267.out 0
              have hfz180_1 := blk_frozen BK267.out 1
              try go_wp2_with (first | (go_at_call 66; (with_reducible refine (fixq_Part.calls x0_4 a1 t283 _ A154.out).mono ?_); rintro e w181 ⟨rfl, hb⟩; have n0_ := Aside0.mk (blk_below (g := gb233) (o := .cells #[.int .u64 t231, .bool t232] 63 (0, 0)) kA hb); have n1_ := Aside0.mk (blk_below (g := gb238) (o := .cells #[.int .u64 t236, .bool t237] 63 (0, 0)) kA hb); have n2_ := Aside0.mk (blk_below (g := gb243) (o := .cells #[.int .u64 t241, .bool t242] 63 (0, 0)) kA hb); have n3_ := Aside0.mk (blk_below (g := gb248) (o := .cells #[.int .u64 t246, .bool t247] 63 (0, 0)) kA hb); have n4_ := Aside0.mk (blk_below (g := gb267) (o := .cells #[.int .u64 t265, .bool false] 63 (0, 0)) kA hb); have n5_ := Aside0.mk (blk_below (g := gb272) (o := .cells #[.int .u64 t270, .bool t271] 63 (0, 0)) kA hb); have n6_ := Aside0.mk (below_step bA hb); clear BK233 BK238 BK243 BK248 BK267 BK272 HB; have BK233 := n0_; have BK238 := n1_; have BK243 := n2_; have BK248 := n3_; have BK267 := n4_; have BK272 := n5_; have HB := n6_; clear n0_ n1_ n2_ n3_ n4_ n5_ n6_; (try clear hb)) | (go_at_call 66; (with_reducible refine (fixq_Part.calls x0_4 9223372036854775808 t284 _ A156.out).mono ?_); rintro e w182 ⟨rfl, hb⟩; have n0_ := Aside0.mk (blk_below (g := gb233) (o := .cells #[.int .u64 t231, .bool t232] 63 (0, 0)) kA hb); have n1_ := Aside0.mk (blk_below (g := gb238) (o := .cells #[.int .u64 t236, .bool t237] 63 (0, 0)) kA hb); have n2_ := Aside0.mk (blk_below (g := gb243) (o := .cells #[.int .u64 t241, .bool t242] 63 (0, 0)) kA hb); have n3_ := Aside0.mk (blk_below (g := gb248) (o := .cells #[.int .u64 t246, .bool t247] 63 (0, 0)) kA hb); have n4_ := Aside0.mk (blk_below (g := gb267) (o := .cells #[.int .u64 t265, .bool false] 63 (0, 0)) kA hb); have n5_ := Aside0.mk (blk_below (g := gb272) (o := .cells #[.int .u64 t270, .bool t271] 63 (0, 0)) kA hb); have n6_ := Aside0.mk (below_step bA hb); clear BK233 BK238 BK243 BK248 BK267 BK272 HB; have BK233 := n0_; have BK238 := n1_; have BK243 := n2_; have BK248 := n3_; have BK267 := n4_; have BK272 := n5_; have HB := n6_; clear n0_ n1_ n2_ n3_ n4_ n5_ n6_; (try clear hb)) | (go_at_call 58; (with_reducible refine (fixq_DivDown.calls kj58 x0_4 4294967296 t285 t286 _ A158.out).mono ?_); rintro e w183 ⟨rfl, hb⟩; have n0_ := Aside0.mk (blk_below (g := gb233) (o := .cells #[.int .u64 t231, .bool t232] 63 (0, 0)) kA hb); have n1_ := Aside0.mk (blk_below (g := gb238) (o := .cells #[.int .u64 t236, .bool t237] 63 (0, 0)) kA hb); have n2_ := Aside0.mk (blk_below (g := gb243) (o := .cells #[.int .u64 t241, .bool t242] 63 (0, 0)) kA hb); have n3_ := Aside0.mk (blk_below (g := gb248) (o := .cells #[.int .u64 t246, .bool t247] 63 (0, 0)) kA hb); have n4_ := Aside0.mk (blk_below (g := gb267) (o := .cells #[.int .u64 t265, .bool false] 63 (0, 0)) kA hb); have n5_ := Aside0.mk (blk_below (g := gb272) (o := .cells #[.int .u64 t270, .bool t271] 63 (0, 0)) kA hb); have n6_ := Aside0.mk (below_step bA hb); clear BK233 BK238 BK243 BK248 BK267 BK272 HB; have BK233 := n0_; have BK238 := n1_; have BK243 := n2_; have BK248 := n3_; have BK267 := n4_; have BK272 := n5_; have HB := n6_; clear n0_ n1_ n2_ n3_ n4_ n5_ n6_; (try clear hb)) | (go_at_call 49; (with_reducible refine (backfilllaw04_of.calls t285 t286 t287 t288 _ A159.out).mono ?_); rintro e w184 ⟨rfl, hb⟩; have n0_ := Aside0.mk (blk_below (g := gb233) (o := .cells #[.int .u64 t231, .bool t232] 63 (0, 0)) kA hb); have n1_ := Aside0.mk (blk_below (g := gb238) (o := .cells #[.int .u64 t236, .bool t237] 63 (0, 0)) kA hb); have n2_ := Aside0.mk (blk_below (g := gb243) (o := .cells #[.int .u64 t241, .bool t242] 63 (0, 0)) kA hb); have n3_ := Aside0.mk (blk_below (g := gb248) (o := .cells #[.int .u64 t246, .bool t247] 63 (0, 0)) kA hb); have n4_ := Aside0.mk (blk_below (g := gb267) (o := .cells #[.int .u64 t265, .bool false] 63 (0, 0)) kA hb); have n5_ := Aside0.mk (blk_below (g := gb272) (o := .cells #[.int .u64 t270, .bool t271] 63 (0, 0)) kA hb); have n6_ := Aside0.mk (below_step bA hb); clear BK233 BK238 BK243 BK248 BK267 BK272 HB; have BK233 := n0_; have BK238 := n1_; have BK243 := n2_; have BK248 := n3_; have BK267 := n4_; have BK272 := n5_; have HB := n6_; clear n0_ n1_ n2_ n3_ n4_ n5_ n6_; (try clear hb)))
              go_ret
              exact ⟨by first | rfl | (simp [errW_none, errW_some] <;> rfl) | (simp [*, errW_none, errW_some] <;> rfl), bA⟩
             ·rw [if_neg c157] at H
              exact absurd H (by simp)
            ·rw [if_neg c155] at H
             exact absurd H (by simp)
          ·rw [if_neg c119] at H
           exact absurd H (by simp)
         ·replace c118 := Bool.eq_false_iff.mpr c118
          subst c118
          have H1 : (none) = some r := by rw [if_neg (show ¬ (false = true) by decide)] at H; exact H
          clear H
          have H := H1
          clear H1
          exact absurd H (by simp)
        ·replace c117 := Bool.eq_false_iff.mpr c117
         subst c117
         have H1 : (none) = some r := by rw [if_neg (show ¬ (false = true) by decide)] at H; exact H
         clear H
         have H := H1
         clear H1
         exact absurd H (by simp)
       ·replace c116 := Bool.eq_false_iff.mpr c116
        subst c116
        have H1 : (none) = some r := by rw [if_neg (show ¬ (false = true) by decide)] at H; exact H
        clear H
        have H := H1
        clear H1
        exact absurd H (by simp)

/-- THE ONE PURE STATEMENT of backfilllaw04_FixqLaws: yours. -/
def backfilllaw04_FixqLaws.Pure : Prop := ∀ (a0 : Int) (a1 : Int) (a2 : Int), (Lit.int .u64 a0).wf = true → (Lit.int .u64 a1).wf = true → (Lit.int .u64 a2).wf = true → ∃ k, backfilllaw04_FixqLaws.f k a0 a1 a2 = some true
theorem backfilllaw04_FixqLaws.walk (P : backfilllaw04_FixqLaws.Pure) (a0 : Int) (a1 : Int) (a2 : Int) (w : World) (w0 : (Lit.int .u64 a0).wf = true) (w1 : (Lit.int .u64 a1).wf = true) (w2 : (Lit.int .u64 a2).wf = true) :
  Calls Try.prog 10 #[.int .u64 a0, .int .u64 a1, .int .u64 a2] w fun e w' => e = .returned (.bool true) ∧ Below w.heap.size w w' := by
 obtain ⟨k, h⟩ := P a0 a1 a2 w0 w1 w2
 refine (backfilllaw04_FixqLaws.calls k a0 a1 a2 true w h).mono ?_
 rintro e w' ⟨rfl, hd⟩
 exact ⟨rfl, hd⟩

end Go.Proofs.Ytcolhngdhlamkaa.GFL
