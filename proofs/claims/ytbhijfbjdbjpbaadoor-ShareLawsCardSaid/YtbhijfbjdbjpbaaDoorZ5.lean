/- The texts of this claim, put together by program, what it does not name left out: part 5. Conditions: each theorem's own. -/
import Derived.Test.YtbhijfbjdbjpbaaDoorZ4
namespace Go.Proofs.YtbhijfbjdbjpbaaDoor.GSH
open Go.RowKit Go.Proofs.YtbhijfbjdbjpbaaDoorW.PrintWords Go.Proofs.YtbhijfbjdbjpbaaDoorW.PrintLast Go.Proofs.YtbhijfbjdbjpbaaDoorW.PrintMore
attribute [local go_sem] max2_int min2_int max_two min_two max_three min_three max_four min_four   -- for this text's walks alone
set_option linter.unusedVariables false
set_option linter.unusedSimpArgs false
def backfillref11_ranges.j0 : Nat → Bool → Int → Int → Int → Int → Int → Int → Int → Int → Option (Bool)
 | 0,_,_,_,_,_,_,_,_,_ => none
 | k + 1,x3,x257000,x257001,x257002,x257003,x257004,x257005,x257006,x257007 => (backfillref11_within.f x257003 1 1048576).bind fun t260 => (if t260 = true then ((backfillref11_within.f x257004 0 1048576).bind fun t261 => (if t261 = true then ((backfillref11_within.f x257005 0 1048576).bind fun t262 => (if x3 = true then (if t262 = true then ((backfillref11_within.f x257006 1 1048576).bind fun t263 => (if t263 = true then ((backfillref11_within.f x257007 1 1073741824).bind fun t264 => (some t264)) else (some false))) else (some false)) else (some false))) else (if x3 = true then (some false) else (some false)))) else (if x3 = true then (some false) else (some false)))
def backfillref11_ranges.f (k : Nat) (a0_0 : Int) (a0_1 : Int) (a0_2 : Int) (a0_3 : Int) (a0_4 : Int) (a0_5 : Int) (a0_6 : Int) (a0_7 : Int) : Option (Bool):=(backfillref11_within.f a0_0 1 256).bind fun t257 => (if t257 = true then ((backfillref11_within.f a0_1 1 128).bind fun t258 => (if t258 = true then ((backfillref11_within.f a0_2 1 1048576).bind fun t259 => (backfillref11_ranges.j0 k t259 a0_0 a0_1 a0_2 a0_3 a0_4 a0_5 a0_6 a0_7)) else (backfillref11_ranges.j0 k false a0_0 a0_1 a0_2 a0_3 a0_4 a0_5 a0_6 a0_7))) else (backfillref11_ranges.j0 k false a0_0 a0_1 a0_2 a0_3 a0_4 a0_5 a0_6 a0_7))
theorem backfillref11_ranges.mono_l : ∀ k,(∀ y0 y1 y2 y3 y4 y5 y6 y7 y8,LeO (backfillref11_ranges.j0 k y0 y1 y2 y3 y4 y5 y6 y7 y8) (backfillref11_ranges.j0 (k + 1) y0 y1 y2 y3 y4 y5 y6 y7 y8))
 | 0 => fun _ _ _ _ _ _ _ _ _ r h => by simp [backfillref11_ranges.j0] at h
 | k + 1 => by
  have ih0:=backfillref11_ranges.mono_l k
  ·intro y0 y1 y2 y3 y4 y5 y6 y7 y8
   unfold backfillref11_ranges.j0
   repeat' first
   | (with_reducible exact ih0 _ _ _ _ _ _ _ _ _)
   | (with_reducible exact LeO.refl _)
   | (with_reducible exact LeO.none _)
   | (with_reducible refine LeO.ite ?_ ?_)
   | (with_reducible refine LeO.bind ?_ (fun _ => ?_))
   | exact ih0 _ _ _ _ _ _ _ _ _
   | exact LeO.none _
   | refine LeO.ite ?_ ?_
   | refine LeO.bind ?_ (fun _ => ?_)
theorem backfillref11_ranges.mono : ∀ a0 a1 a2 a3 a4 a5 a6 a7 k,LeO (backfillref11_ranges.f k a0 a1 a2 a3 a4 a5 a6 a7) (backfillref11_ranges.f (k + 1) a0 a1 a2 a3 a4 a5 a6 a7):=by
 intro a0 a1 a2 a3 a4 a5 a6 a7 k
 have ih0:=backfillref11_ranges.mono_l k
 unfold backfillref11_ranges.f
 repeat' first
   | (with_reducible exact ih0 _ _ _ _ _ _ _ _ _)
   | (with_reducible exact LeO.refl _)
   | (with_reducible exact LeO.none _)
   | (with_reducible refine LeO.ite ?_ ?_)
   | (with_reducible refine LeO.bind ?_ (fun _ => ?_))
   | exact ih0 _ _ _ _ _ _ _ _ _
   | exact LeO.none _
   | refine LeO.ite ?_ ?_
   | refine LeO.bind ?_ (fun _ => ?_)
set_option maxHeartbeats 8000000 in
set_option maxRecDepth 100000 in
theorem backfillref11_ranges.calls (k : Nat) (a0_0 : Int) (a0_1 : Int) (a0_2 : Int) (a0_3 : Int) (a0_4 : Int) (a0_5 : Int) (a0_6 : Int) (a0_7 : Int) (r : Bool) (w : World) (h : backfillref11_ranges.f k a0_0 a0_1 a0_2 a0_3 a0_4 a0_5 a0_6 a0_7 = some r) :
  Calls Tryd.prog 27 #[.agg #[.int .i64 a0_0,.int .i64 a0_1,.int .i64 a0_2,.int .i64 a0_3,.int .i64 a0_4,.int .i64 a0_5,.int .i64 a0_6,.int .i64 a0_7]] w fun e w' => e = .returned (.bool r) ∧ Below w.heap.size w w':=by
 have hu23:=Tryd.underlying23
 have HB:=Am (Below.refl w.heap.size w)
 have H : ((backfillref11_within.f a0_0 1 256).bind fun t257 => (if t257 = true then ((backfillref11_within.f a0_1 1 128).bind fun t258 => (if t258 = true then ((backfillref11_within.f a0_2 1 1048576).bind fun t259 => (backfillref11_ranges.j0 k t259 a0_0 a0_1 a0_2 a0_3 a0_4 a0_5 a0_6 a0_7)) else (backfillref11_ranges.j0 k false a0_0 a0_1 a0_2 a0_3 a0_4 a0_5 a0_6 a0_7))) else (backfillref11_ranges.j0 k false a0_0 a0_1 a0_2 a0_3 a0_4 a0_5 a0_6 a0_7))) = some r:=h
 clear h
 have HC2:=Aside0.mk H
 clear H
 go_enter Tryd.func27,Tryd.ntmps27
 go_upto_region 1 with (first | ((with_reducible refine gate_dst (N:=1) rfl ?_);refine bxA 1 #[.int .i64 a0_0,.int .i64 a0_1,.int .i64 a0_2,.int .i64 a0_3,.int .i64 a0_4,.int .i64 a0_5,.int .i64 a0_6,.int .i64 a0_7] 23 ?_;intro gb256 hg w3 hbox hb;have n0_:=Am (below_step bA hb);have n1_:=Am (hbox);have n2_:=Am (gwA hg bA);have n3_:=Am (gwA hg bA);clear HB;have HB:=n0_;have BK256:=n1_;have GW256:=n2_;have GE256:=n3_;clear n0_ n1_ n2_ n3_ hb hbox hg))
 (try simp only [Act.put,List.setIfInBounds_toArray,List.set_cons_zero,List.set_cons_succ])
 go_cut [3] (fun v3 wc => ∃ (kq : Nat) (x3_1 : Bool),v3 = .bool x3_1 ∧ Aside0 (backfillref11_ranges.j0 kq x3_1 a0_0 a0_1 a0_2 a0_3 a0_4 a0_5 a0_6 a0_7 = some r) ∧ Aside0 (kq ≤ k) ∧ Aside0 (wc.heap[gb256]? = some (.cells #[.int .i64 a0_0,.int .i64 a0_1,.int .i64 a0_2,.int .i64 a0_3,.int .i64 a0_4,.int .i64 a0_5,.int .i64 a0_6,.int .i64 a0_7] 23 (0,0))) ∧ Aside0 (Below w.heap.size w wc))
 case first =>
  have H:=HC2.out
  clear HC2;replace H:=Option.bind_eq_some_iff.mp H;obtain ⟨t257,A40,H⟩:=H;replace H : (if t257 = true then ((backfillref11_within.f a0_1 1 128).bind fun t258 => (if t258 = true then ((backfillref11_within.f a0_2 1 1048576).bind fun t259 => (backfillref11_ranges.j0 k t259 a0_0 a0_1 a0_2 a0_3 a0_4 a0_5 a0_6 a0_7)) else (backfillref11_ranges.j0 k false a0_0 a0_1 a0_2 a0_3 a0_4 a0_5 a0_6 a0_7))) else (backfillref11_ranges.j0 k false a0_0 a0_1 a0_2 a0_3 a0_4 a0_5 a0_6 a0_7)) = some r:=H;have A4:=Aside0.mk A40;clear A40
  by_cases c5 : t257 = true
  ·subst c5
   have H1 : ((backfillref11_within.f a0_1 1 128).bind fun t258 => (if t258 = true then ((backfillref11_within.f a0_2 1 1048576).bind fun t259 => (backfillref11_ranges.j0 k t259 a0_0 a0_1 a0_2 a0_3 a0_4 a0_5 a0_6 a0_7)) else (backfillref11_ranges.j0 k false a0_0 a0_1 a0_2 a0_3 a0_4 a0_5 a0_6 a0_7))) = some r:=by rw [if_pos rfl] at H;exact H
   clear H
   have H:=H1
   clear H1;replace H:=Option.bind_eq_some_iff.mp H;obtain ⟨t258,A60,H⟩:=H;replace H : (if t258 = true then ((backfillref11_within.f a0_2 1 1048576).bind fun t259 => (backfillref11_ranges.j0 k t259 a0_0 a0_1 a0_2 a0_3 a0_4 a0_5 a0_6 a0_7)) else (backfillref11_ranges.j0 k false a0_0 a0_1 a0_2 a0_3 a0_4 a0_5 a0_6 a0_7)) = some r:=H;have A6:=Aside0.mk A60;clear A60
   by_cases c7 : t258 = true
   ·subst c7
    have H1 : ((backfillref11_within.f a0_2 1 1048576).bind fun t259 => (backfillref11_ranges.j0 k t259 a0_0 a0_1 a0_2 a0_3 a0_4 a0_5 a0_6 a0_7)) = some r:=by rw [if_pos rfl] at H;exact H
    clear H
    have H:=H1
    clear H1;replace H:=Option.bind_eq_some_iff.mp H;obtain ⟨t259,A80,H⟩:=H;replace H : (backfillref11_ranges.j0 k t259 a0_0 a0_1 a0_2 a0_3 a0_4 a0_5 a0_6 a0_7) = some r:=H;have A8:=Aside0.mk A80;clear A80
    have H':=Aside0.mk H
    clear H
    have hcz9_0 : w3.cell? ⟨gb256,0,none⟩ = some (.int .i64 a0_0):=(blk_cell BK256.out 0).trans rfl
    have hcz9_1 : w3.cell? ⟨gb256,1,none⟩ = some (.int .i64 a0_1):=(blk_cell BK256.out 1).trans rfl
    have hcz9_2 : w3.cell? ⟨gb256,2,none⟩ = some (.int .i64 a0_2):=(blk_cell BK256.out 2).trans rfl
    have hcz9_3 : w3.cell? ⟨gb256,3,none⟩ = some (.int .i64 a0_3):=(blk_cell BK256.out 3).trans rfl
    have hcz9_4 : w3.cell? ⟨gb256,4,none⟩ = some (.int .i64 a0_4):=(blk_cell BK256.out 4).trans rfl
    have hcz9_5 : w3.cell? ⟨gb256,5,none⟩ = some (.int .i64 a0_5):=(blk_cell BK256.out 5).trans rfl
    have hcz9_6 : w3.cell? ⟨gb256,6,none⟩ = some (.int .i64 a0_6):=(blk_cell BK256.out 6).trans rfl
    have hcz9_7 : w3.cell? ⟨gb256,7,none⟩ = some (.int .i64 a0_7):=(blk_cell BK256.out 7).trans rfl
    have hfz9_0:=blk_frozen BK256.out 0
    have hfz9_1:=blk_frozen BK256.out 1
    have hfz9_2:=blk_frozen BK256.out 2
    have hfz9_3:=blk_frozen BK256.out 3
    have hfz9_4:=blk_frozen BK256.out 4
    have hfz9_5:=blk_frozen BK256.out 5
    have hfz9_6:=blk_frozen BK256.out 6
    have hfz9_7:=blk_frozen BK256.out 7
    go_wp2_with (first | ((with_reducible refine gate_callee (f:=49) rfl ?_);refine goesL_ (some 7) rfl rfl Tryd.func49 (by kernel_rfl) rfl #[.int .i64 a0_0,.int .i64 1,.int .i64 256] rfl aA ?_;(with_reducible refine (backfillref11_within.calls a0_0 1 256 true _ A4.out).mono ?_);rintro e w' ⟨rfl,⟨nd,rfl⟩⟩;refine ⟨_,rfl,?_⟩) | (go_at_call 49;(with_reducible refine (backfillref11_within.calls a0_1 1 128 true _ A6.out).mono ?_);rintro e w' ⟨rfl,⟨nd,rfl⟩⟩) | (go_at_call 49;(with_reducible refine (backfillref11_within.calls a0_2 1 1048576 t259 _ A8.out).mono ?_);rintro e w' ⟨rfl,⟨nd,rfl⟩⟩))
    go_meet
    case rel => exact ⟨_,(t259),(by first | rfl | (simp;done) | (simp [*];done)),H',⟨by first | omega | exact Nat.le_refl _⟩,⟨by exact kA⟩,⟨bA⟩⟩
   ·replace c7:=Bool.eq_false_iff.mpr c7
    subst c7
    have H1 : (backfillref11_ranges.j0 k false a0_0 a0_1 a0_2 a0_3 a0_4 a0_5 a0_6 a0_7) = some r:=by rw [if_neg (show ¬ (false = true) by decide)] at H;exact H
    clear H
    have H:=H1
    clear H1
    have H':=Aside0.mk H
    clear H
    have hcz10_0 : w3.cell? ⟨gb256,0,none⟩ = some (.int .i64 a0_0):=(blk_cell BK256.out 0).trans rfl
    have hcz10_1 : w3.cell? ⟨gb256,1,none⟩ = some (.int .i64 a0_1):=(blk_cell BK256.out 1).trans rfl
    have hcz10_2 : w3.cell? ⟨gb256,2,none⟩ = some (.int .i64 a0_2):=(blk_cell BK256.out 2).trans rfl
    have hcz10_3 : w3.cell? ⟨gb256,3,none⟩ = some (.int .i64 a0_3):=(blk_cell BK256.out 3).trans rfl
    have hcz10_4 : w3.cell? ⟨gb256,4,none⟩ = some (.int .i64 a0_4):=(blk_cell BK256.out 4).trans rfl
    have hcz10_5 : w3.cell? ⟨gb256,5,none⟩ = some (.int .i64 a0_5):=(blk_cell BK256.out 5).trans rfl
    have hcz10_6 : w3.cell? ⟨gb256,6,none⟩ = some (.int .i64 a0_6):=(blk_cell BK256.out 6).trans rfl
    have hcz10_7 : w3.cell? ⟨gb256,7,none⟩ = some (.int .i64 a0_7):=(blk_cell BK256.out 7).trans rfl
    have hfz10_0:=blk_frozen BK256.out 0
    have hfz10_1:=blk_frozen BK256.out 1
    have hfz10_2:=blk_frozen BK256.out 2
    have hfz10_3:=blk_frozen BK256.out 3
    have hfz10_4:=blk_frozen BK256.out 4
    have hfz10_5:=blk_frozen BK256.out 5
    have hfz10_6:=blk_frozen BK256.out 6
    have hfz10_7:=blk_frozen BK256.out 7
    go_wp2_with (first | ((with_reducible refine gate_callee (f:=49) rfl ?_);refine goesL_ (some 7) rfl rfl Tryd.func49 (by kernel_rfl) rfl #[.int .i64 a0_0,.int .i64 1,.int .i64 256] rfl aA ?_;(with_reducible refine (backfillref11_within.calls a0_0 1 256 true _ A4.out).mono ?_);rintro e w' ⟨rfl,⟨nd,rfl⟩⟩;refine ⟨_,rfl,?_⟩) | (go_at_call 49;(with_reducible refine (backfillref11_within.calls a0_1 1 128 false _ A6.out).mono ?_);rintro e w' ⟨rfl,⟨nd,rfl⟩⟩))
    go_meet
    case rel => exact ⟨_,(false),(by first | rfl | (simp;done) | (simp [*];done)),H',⟨by first | omega | exact Nat.le_refl _⟩,⟨by exact kA⟩,⟨bA⟩⟩
  ·replace c5:=Bool.eq_false_iff.mpr c5
   subst c5
   have H1 : (backfillref11_ranges.j0 k false a0_0 a0_1 a0_2 a0_3 a0_4 a0_5 a0_6 a0_7) = some r:=by rw [if_neg (show ¬ (false = true) by decide)] at H;exact H
   clear H
   have H:=H1
   clear H1
   have H':=Aside0.mk H
   clear H
   have hcz11_0 : w3.cell? ⟨gb256,0,none⟩ = some (.int .i64 a0_0):=(blk_cell BK256.out 0).trans rfl
   have hcz11_1 : w3.cell? ⟨gb256,1,none⟩ = some (.int .i64 a0_1):=(blk_cell BK256.out 1).trans rfl
   have hcz11_2 : w3.cell? ⟨gb256,2,none⟩ = some (.int .i64 a0_2):=(blk_cell BK256.out 2).trans rfl
   have hcz11_3 : w3.cell? ⟨gb256,3,none⟩ = some (.int .i64 a0_3):=(blk_cell BK256.out 3).trans rfl
   have hcz11_4 : w3.cell? ⟨gb256,4,none⟩ = some (.int .i64 a0_4):=(blk_cell BK256.out 4).trans rfl
   have hcz11_5 : w3.cell? ⟨gb256,5,none⟩ = some (.int .i64 a0_5):=(blk_cell BK256.out 5).trans rfl
   have hcz11_6 : w3.cell? ⟨gb256,6,none⟩ = some (.int .i64 a0_6):=(blk_cell BK256.out 6).trans rfl
   have hcz11_7 : w3.cell? ⟨gb256,7,none⟩ = some (.int .i64 a0_7):=(blk_cell BK256.out 7).trans rfl
   have hfz11_0:=blk_frozen BK256.out 0
   have hfz11_1:=blk_frozen BK256.out 1
   have hfz11_2:=blk_frozen BK256.out 2
   have hfz11_3:=blk_frozen BK256.out 3
   have hfz11_4:=blk_frozen BK256.out 4
   have hfz11_5:=blk_frozen BK256.out 5
   have hfz11_6:=blk_frozen BK256.out 6
   have hfz11_7:=blk_frozen BK256.out 7
   go_wp2_with (first | ((with_reducible refine gate_callee (f:=49) rfl ?_);refine goesL_ (some 7) rfl rfl Tryd.func49 (by kernel_rfl) rfl #[.int .i64 a0_0,.int .i64 1,.int .i64 256] rfl aA ?_;(with_reducible refine (backfillref11_within.calls a0_0 1 256 false _ A4.out).mono ?_);rintro e w' ⟨rfl,⟨nd,rfl⟩⟩;refine ⟨_,rfl,?_⟩))
   go_meet
   case rel => exact ⟨_,(false),(by first | rfl | (simp;done) | (simp [*];done)),H',⟨by first | omega | exact Nat.le_refl _⟩,⟨by exact kA⟩,⟨bA⟩⟩
 case rest =>
  clear HC2
  try clear c2
  try clear p2
  try clear c4
  try clear c5
  try clear c7
  try clear hcz10_0
  try clear hcz10_1
  try clear hcz10_2
  try clear hcz10_3
  try clear hcz10_4
  try clear hcz10_5
  try clear hcz10_6
  try clear hcz10_7
  try clear hcz11_0
  try clear hcz11_1
  try clear hcz11_2
  try clear hcz11_3
  try clear hcz11_4
  try clear hcz11_5
  try clear hcz11_6
  try clear hcz11_7
  try clear hcz9_0
  try clear hcz9_1
  try clear hcz9_2
  try clear hcz9_3
  try clear hcz9_4
  try clear hcz9_5
  try clear hcz9_6
  try clear hcz9_7
  try clear hfz10_0
  try clear hfz10_1
  try clear hfz10_2
  try clear hfz10_3
  try clear hfz10_4
  try clear hfz10_5
  try clear hfz10_6
  try clear hfz10_7
  try clear hfz11_0
  try clear hfz11_1
  try clear hfz11_2
  try clear hfz11_3
  try clear hfz11_4
  try clear hfz11_5
  try clear hfz11_6
  try clear hfz11_7
  try clear hfz9_0
  try clear hfz9_1
  try clear hfz9_2
  try clear hfz9_3
  try clear hfz9_4
  try clear hfz9_5
  try clear hfz9_6
  try clear hfz9_7
  obtain ⟨kq,x3_1,rfl,HA,HJ1,BK256,HB⟩:=hcut
  cases kq with
  | zero => exact absurd HA.out (by simp [backfillref11_ranges.j0])
  | succ kj1 =>
   have H:=HA.out
   clear HA
   simp only [backfillref11_ranges.j0] at H
   replace H:=Option.bind_eq_some_iff.mp H;obtain ⟨t260,A120,H⟩:=H;replace H : (if t260 = true then ((backfillref11_within.f a0_4 0 1048576).bind fun t261 => (if t261 = true then ((backfillref11_within.f a0_5 0 1048576).bind fun t262 => (if x3_1 = true then (if t262 = true then ((backfillref11_within.f a0_6 1 1048576).bind fun t263 => (if t263 = true then ((backfillref11_within.f a0_7 1 1073741824).bind fun t264 => (some t264)) else (some false))) else (some false)) else (some false))) else (if x3_1 = true then (some false) else (some false)))) else (if x3_1 = true then (some false) else (some false))) = some r:=H;have A12:=Aside0.mk A120;clear A120
   by_cases c13 : t260 = true
   ·subst c13
    have H1 : ((backfillref11_within.f a0_4 0 1048576).bind fun t261 => (if t261 = true then ((backfillref11_within.f a0_5 0 1048576).bind fun t262 => (if x3_1 = true then (if t262 = true then ((backfillref11_within.f a0_6 1 1048576).bind fun t263 => (if t263 = true then ((backfillref11_within.f a0_7 1 1073741824).bind fun t264 => (some t264)) else (some false))) else (some false)) else (some false))) else (if x3_1 = true then (some false) else (some false)))) = some r:=by rw [if_pos rfl] at H;exact H
    clear H
    have H:=H1
    clear H1;replace H:=Option.bind_eq_some_iff.mp H;obtain ⟨t261,A140,H⟩:=H;replace H : (if t261 = true then ((backfillref11_within.f a0_5 0 1048576).bind fun t262 => (if x3_1 = true then (if t262 = true then ((backfillref11_within.f a0_6 1 1048576).bind fun t263 => (if t263 = true then ((backfillref11_within.f a0_7 1 1073741824).bind fun t264 => (some t264)) else (some false))) else (some false)) else (some false))) else (if x3_1 = true then (some false) else (some false))) = some r:=H;have A14:=Aside0.mk A140;clear A140
    by_cases c15 : t261 = true
    ·subst c15
     have H1 : ((backfillref11_within.f a0_5 0 1048576).bind fun t262 => (if x3_1 = true then (if t262 = true then ((backfillref11_within.f a0_6 1 1048576).bind fun t263 => (if t263 = true then ((backfillref11_within.f a0_7 1 1073741824).bind fun t264 => (some t264)) else (some false))) else (some false)) else (some false))) = some r:=by rw [if_pos rfl] at H;exact H
     clear H
     have H:=H1
     clear H1;replace H:=Option.bind_eq_some_iff.mp H;obtain ⟨t262,A160,H⟩:=H;replace H : (if x3_1 = true then (if t262 = true then ((backfillref11_within.f a0_6 1 1048576).bind fun t263 => (if t263 = true then ((backfillref11_within.f a0_7 1 1073741824).bind fun t264 => (some t264)) else (some false))) else (some false)) else (some false)) = some r:=H;have A16:=Aside0.mk A160;clear A160
     by_cases c17 : x3_1 = true
     ·subst c17
      have H1 : (if t262 = true then ((backfillref11_within.f a0_6 1 1048576).bind fun t263 => (if t263 = true then ((backfillref11_within.f a0_7 1 1073741824).bind fun t264 => (some t264)) else (some false))) else (some false)) = some r:=by rw [if_pos rfl] at H;exact H
      clear H
      have H:=H1
      clear H1
      by_cases c18 : t262 = true
      ·subst c18
       have H1 : ((backfillref11_within.f a0_6 1 1048576).bind fun t263 => (if t263 = true then ((backfillref11_within.f a0_7 1 1073741824).bind fun t264 => (some t264)) else (some false))) = some r:=by rw [if_pos rfl] at H;exact H
       clear H
       have H:=H1
       clear H1;replace H:=Option.bind_eq_some_iff.mp H;obtain ⟨t263,A190,H⟩:=H;replace H : (if t263 = true then ((backfillref11_within.f a0_7 1 1073741824).bind fun t264 => (some t264)) else (some false)) = some r:=H;have A19:=Aside0.mk A190;clear A190
       by_cases c20 : t263 = true
       ·subst c20
        have H1 : ((backfillref11_within.f a0_7 1 1073741824).bind fun t264 => (some t264)) = some r:=by rw [if_pos rfl] at H;exact H
        clear H
        have H:=H1
        clear H1;replace H:=Option.bind_eq_some_iff.mp H;obtain ⟨t264,A210,H⟩:=H;replace H : (some t264) = some r:=H;have A21:=Aside0.mk A210;clear A210
        obtain rfl:=Option.some.inj H
        have hcz22_0 : wc.cell? ⟨gb256,0,none⟩ = some (.int .i64 a0_0):=(blk_cell BK256.out 0).trans rfl
        have hcz22_1 : wc.cell? ⟨gb256,1,none⟩ = some (.int .i64 a0_1):=(blk_cell BK256.out 1).trans rfl
        have hcz22_2 : wc.cell? ⟨gb256,2,none⟩ = some (.int .i64 a0_2):=(blk_cell BK256.out 2).trans rfl
        have hcz22_3 : wc.cell? ⟨gb256,3,none⟩ = some (.int .i64 a0_3):=(blk_cell BK256.out 3).trans rfl
        have hcz22_4 : wc.cell? ⟨gb256,4,none⟩ = some (.int .i64 a0_4):=(blk_cell BK256.out 4).trans rfl
        have hcz22_5 : wc.cell? ⟨gb256,5,none⟩ = some (.int .i64 a0_5):=(blk_cell BK256.out 5).trans rfl
        have hcz22_6 : wc.cell? ⟨gb256,6,none⟩ = some (.int .i64 a0_6):=(blk_cell BK256.out 6).trans rfl
        have hcz22_7 : wc.cell? ⟨gb256,7,none⟩ = some (.int .i64 a0_7):=(blk_cell BK256.out 7).trans rfl
        have hfz22_0:=blk_frozen BK256.out 0
        have hfz22_1:=blk_frozen BK256.out 1
        have hfz22_2:=blk_frozen BK256.out 2
        have hfz22_3:=blk_frozen BK256.out 3
        have hfz22_4:=blk_frozen BK256.out 4
        have hfz22_5:=blk_frozen BK256.out 5
        have hfz22_6:=blk_frozen BK256.out 6
        have hfz22_7:=blk_frozen BK256.out 7
        go_wp2_with (first | ((with_reducible refine gate_callee (f:=49) rfl ?_);refine goesL_ (some 20) rfl rfl Tryd.func49 (by kernel_rfl) rfl #[.int .i64 a0_3,.int .i64 1,.int .i64 1048576] rfl aA ?_;(with_reducible refine (backfillref11_within.calls a0_3 1 1048576 true _ A12.out).mono ?_);rintro e w' ⟨rfl,⟨nd,rfl⟩⟩;refine ⟨_,rfl,?_⟩) | (go_at_call 49;(with_reducible refine (backfillref11_within.calls a0_4 0 1048576 true _ A14.out).mono ?_);rintro e w' ⟨rfl,⟨nd,rfl⟩⟩) | (go_at_call 49;(with_reducible refine (backfillref11_within.calls a0_5 0 1048576 true _ A16.out).mono ?_);rintro e w' ⟨rfl,⟨nd,rfl⟩⟩) | (go_at_call 49;(with_reducible refine (backfillref11_within.calls a0_6 1 1048576 true _ A19.out).mono ?_);rintro e w' ⟨rfl,⟨nd,rfl⟩⟩) | (go_at_call 49;(with_reducible refine (backfillref11_within.calls a0_7 1 1073741824 t264 _ A21.out).mono ?_);rintro e w' ⟨rfl,⟨nd,rfl⟩⟩))
        go_ret
        exact ⟨by first | rfl | (simp [errW_none,errW_some] <;> rfl) | (simp [*,errW_none,errW_some] <;> rfl),bA⟩
       ·replace c20:=Bool.eq_false_iff.mpr c20
        subst c20
        have H1 : (some false) = some r:=by rw [if_neg (show ¬ (false = true) by decide)] at H;exact H
        clear H
        have H:=H1
        clear H1
        obtain rfl:=Option.some.inj H
        have hcz23_0 : wc.cell? ⟨gb256,0,none⟩ = some (.int .i64 a0_0):=(blk_cell BK256.out 0).trans rfl
        have hcz23_1 : wc.cell? ⟨gb256,1,none⟩ = some (.int .i64 a0_1):=(blk_cell BK256.out 1).trans rfl
        have hcz23_2 : wc.cell? ⟨gb256,2,none⟩ = some (.int .i64 a0_2):=(blk_cell BK256.out 2).trans rfl
        have hcz23_3 : wc.cell? ⟨gb256,3,none⟩ = some (.int .i64 a0_3):=(blk_cell BK256.out 3).trans rfl
        have hcz23_4 : wc.cell? ⟨gb256,4,none⟩ = some (.int .i64 a0_4):=(blk_cell BK256.out 4).trans rfl
        have hcz23_5 : wc.cell? ⟨gb256,5,none⟩ = some (.int .i64 a0_5):=(blk_cell BK256.out 5).trans rfl
        have hcz23_6 : wc.cell? ⟨gb256,6,none⟩ = some (.int .i64 a0_6):=(blk_cell BK256.out 6).trans rfl
        have hcz23_7 : wc.cell? ⟨gb256,7,none⟩ = some (.int .i64 a0_7):=(blk_cell BK256.out 7).trans rfl
        have hfz23_0:=blk_frozen BK256.out 0
        have hfz23_1:=blk_frozen BK256.out 1
        have hfz23_2:=blk_frozen BK256.out 2
        have hfz23_3:=blk_frozen BK256.out 3
        have hfz23_4:=blk_frozen BK256.out 4
        have hfz23_5:=blk_frozen BK256.out 5
        have hfz23_6:=blk_frozen BK256.out 6
        have hfz23_7:=blk_frozen BK256.out 7
        go_wp2_with (first | ((with_reducible refine gate_callee (f:=49) rfl ?_);refine goesL_ (some 20) rfl rfl Tryd.func49 (by kernel_rfl) rfl #[.int .i64 a0_3,.int .i64 1,.int .i64 1048576] rfl aA ?_;(with_reducible refine (backfillref11_within.calls a0_3 1 1048576 true _ A12.out).mono ?_);rintro e w' ⟨rfl,⟨nd,rfl⟩⟩;refine ⟨_,rfl,?_⟩) | (go_at_call 49;(with_reducible refine (backfillref11_within.calls a0_4 0 1048576 true _ A14.out).mono ?_);rintro e w' ⟨rfl,⟨nd,rfl⟩⟩) | (go_at_call 49;(with_reducible refine (backfillref11_within.calls a0_5 0 1048576 true _ A16.out).mono ?_);rintro e w' ⟨rfl,⟨nd,rfl⟩⟩) | (go_at_call 49;(with_reducible refine (backfillref11_within.calls a0_6 1 1048576 false _ A19.out).mono ?_);rintro e w' ⟨rfl,⟨nd,rfl⟩⟩))
        go_ret
        exact ⟨by first | rfl | (simp [errW_none,errW_some] <;> rfl) | (simp [*,errW_none,errW_some] <;> rfl),bA⟩
      ·replace c18:=Bool.eq_false_iff.mpr c18
       subst c18
       have H1 : (some false) = some r:=by rw [if_neg (show ¬ (false = true) by decide)] at H;exact H
       clear H
       have H:=H1
       clear H1
       obtain rfl:=Option.some.inj H
       have hcz24_0 : wc.cell? ⟨gb256,0,none⟩ = some (.int .i64 a0_0):=(blk_cell BK256.out 0).trans rfl
       have hcz24_1 : wc.cell? ⟨gb256,1,none⟩ = some (.int .i64 a0_1):=(blk_cell BK256.out 1).trans rfl
       have hcz24_2 : wc.cell? ⟨gb256,2,none⟩ = some (.int .i64 a0_2):=(blk_cell BK256.out 2).trans rfl
       have hcz24_3 : wc.cell? ⟨gb256,3,none⟩ = some (.int .i64 a0_3):=(blk_cell BK256.out 3).trans rfl
       have hcz24_4 : wc.cell? ⟨gb256,4,none⟩ = some (.int .i64 a0_4):=(blk_cell BK256.out 4).trans rfl
       have hcz24_5 : wc.cell? ⟨gb256,5,none⟩ = some (.int .i64 a0_5):=(blk_cell BK256.out 5).trans rfl
       have hcz24_6 : wc.cell? ⟨gb256,6,none⟩ = some (.int .i64 a0_6):=(blk_cell BK256.out 6).trans rfl
       have hcz24_7 : wc.cell? ⟨gb256,7,none⟩ = some (.int .i64 a0_7):=(blk_cell BK256.out 7).trans rfl
       have hfz24_0:=blk_frozen BK256.out 0
       have hfz24_1:=blk_frozen BK256.out 1
       have hfz24_2:=blk_frozen BK256.out 2
       have hfz24_3:=blk_frozen BK256.out 3
       have hfz24_4:=blk_frozen BK256.out 4
       have hfz24_5:=blk_frozen BK256.out 5
       have hfz24_6:=blk_frozen BK256.out 6
       have hfz24_7:=blk_frozen BK256.out 7
       go_wp2_with (first | ((with_reducible refine gate_callee (f:=49) rfl ?_);refine goesL_ (some 20) rfl rfl Tryd.func49 (by kernel_rfl) rfl #[.int .i64 a0_3,.int .i64 1,.int .i64 1048576] rfl aA ?_;(with_reducible refine (backfillref11_within.calls a0_3 1 1048576 true _ A12.out).mono ?_);rintro e w' ⟨rfl,⟨nd,rfl⟩⟩;refine ⟨_,rfl,?_⟩) | (go_at_call 49;(with_reducible refine (backfillref11_within.calls a0_4 0 1048576 true _ A14.out).mono ?_);rintro e w' ⟨rfl,⟨nd,rfl⟩⟩) | (go_at_call 49;(with_reducible refine (backfillref11_within.calls a0_5 0 1048576 false _ A16.out).mono ?_);rintro e w' ⟨rfl,⟨nd,rfl⟩⟩))
       go_ret
       exact ⟨by first | rfl | (simp [errW_none,errW_some] <;> rfl) | (simp [*,errW_none,errW_some] <;> rfl),bA⟩
     ·replace c17:=Bool.eq_false_iff.mpr c17
      subst c17
      have H1 : (some false) = some r:=by rw [if_neg (show ¬ (false = true) by decide)] at H;exact H
      clear H
      have H:=H1
      clear H1
      obtain rfl:=Option.some.inj H
      have hcz25_0 : wc.cell? ⟨gb256,0,none⟩ = some (.int .i64 a0_0):=(blk_cell BK256.out 0).trans rfl
      have hcz25_1 : wc.cell? ⟨gb256,1,none⟩ = some (.int .i64 a0_1):=(blk_cell BK256.out 1).trans rfl
      have hcz25_2 : wc.cell? ⟨gb256,2,none⟩ = some (.int .i64 a0_2):=(blk_cell BK256.out 2).trans rfl
      have hcz25_3 : wc.cell? ⟨gb256,3,none⟩ = some (.int .i64 a0_3):=(blk_cell BK256.out 3).trans rfl
      have hcz25_4 : wc.cell? ⟨gb256,4,none⟩ = some (.int .i64 a0_4):=(blk_cell BK256.out 4).trans rfl
      have hcz25_5 : wc.cell? ⟨gb256,5,none⟩ = some (.int .i64 a0_5):=(blk_cell BK256.out 5).trans rfl
      have hcz25_6 : wc.cell? ⟨gb256,6,none⟩ = some (.int .i64 a0_6):=(blk_cell BK256.out 6).trans rfl
      have hcz25_7 : wc.cell? ⟨gb256,7,none⟩ = some (.int .i64 a0_7):=(blk_cell BK256.out 7).trans rfl
      have hfz25_0:=blk_frozen BK256.out 0
      have hfz25_1:=blk_frozen BK256.out 1
      have hfz25_2:=blk_frozen BK256.out 2
      have hfz25_3:=blk_frozen BK256.out 3
      have hfz25_4:=blk_frozen BK256.out 4
      have hfz25_5:=blk_frozen BK256.out 5
      have hfz25_6:=blk_frozen BK256.out 6
      have hfz25_7:=blk_frozen BK256.out 7
      go_wp2_with (first | ((with_reducible refine gate_callee (f:=49) rfl ?_);refine goesL_ (some 20) rfl rfl Tryd.func49 (by kernel_rfl) rfl #[.int .i64 a0_3,.int .i64 1,.int .i64 1048576] rfl aA ?_;(with_reducible refine (backfillref11_within.calls a0_3 1 1048576 true _ A12.out).mono ?_);rintro e w' ⟨rfl,⟨nd,rfl⟩⟩;refine ⟨_,rfl,?_⟩) | (go_at_call 49;(with_reducible refine (backfillref11_within.calls a0_4 0 1048576 true _ A14.out).mono ?_);rintro e w' ⟨rfl,⟨nd,rfl⟩⟩) | (go_at_call 49;(with_reducible refine (backfillref11_within.calls a0_5 0 1048576 t262 _ A16.out).mono ?_);rintro e w' ⟨rfl,⟨nd,rfl⟩⟩))
      go_ret
      exact ⟨by first | rfl | (simp [errW_none,errW_some] <;> rfl) | (simp [*,errW_none,errW_some] <;> rfl),bA⟩
    ·replace c15:=Bool.eq_false_iff.mpr c15
     subst c15
     have H1 : (if x3_1 = true then (some false) else (some false)) = some r:=by rw [if_neg (show ¬ (false = true) by decide)] at H;exact H
     clear H
     have H:=H1
     clear H1
     by_cases c26 : x3_1 = true
     ·subst c26
      have H1 : (some false) = some r:=by rw [if_pos rfl] at H;exact H
      clear H
      have H:=H1
      clear H1
      obtain rfl:=Option.some.inj H
      have hcz27_0 : wc.cell? ⟨gb256,0,none⟩ = some (.int .i64 a0_0):=(blk_cell BK256.out 0).trans rfl
      have hcz27_1 : wc.cell? ⟨gb256,1,none⟩ = some (.int .i64 a0_1):=(blk_cell BK256.out 1).trans rfl
      have hcz27_2 : wc.cell? ⟨gb256,2,none⟩ = some (.int .i64 a0_2):=(blk_cell BK256.out 2).trans rfl
      have hcz27_3 : wc.cell? ⟨gb256,3,none⟩ = some (.int .i64 a0_3):=(blk_cell BK256.out 3).trans rfl
      have hcz27_4 : wc.cell? ⟨gb256,4,none⟩ = some (.int .i64 a0_4):=(blk_cell BK256.out 4).trans rfl
      have hcz27_5 : wc.cell? ⟨gb256,5,none⟩ = some (.int .i64 a0_5):=(blk_cell BK256.out 5).trans rfl
      have hcz27_6 : wc.cell? ⟨gb256,6,none⟩ = some (.int .i64 a0_6):=(blk_cell BK256.out 6).trans rfl
      have hcz27_7 : wc.cell? ⟨gb256,7,none⟩ = some (.int .i64 a0_7):=(blk_cell BK256.out 7).trans rfl
      have hfz27_0:=blk_frozen BK256.out 0
      have hfz27_1:=blk_frozen BK256.out 1
      have hfz27_2:=blk_frozen BK256.out 2
      have hfz27_3:=blk_frozen BK256.out 3
      have hfz27_4:=blk_frozen BK256.out 4
      have hfz27_5:=blk_frozen BK256.out 5
      have hfz27_6:=blk_frozen BK256.out 6
      have hfz27_7:=blk_frozen BK256.out 7
      go_wp2_with (first | ((with_reducible refine gate_callee (f:=49) rfl ?_);refine goesL_ (some 20) rfl rfl Tryd.func49 (by kernel_rfl) rfl #[.int .i64 a0_3,.int .i64 1,.int .i64 1048576] rfl aA ?_;(with_reducible refine (backfillref11_within.calls a0_3 1 1048576 true _ A12.out).mono ?_);rintro e w' ⟨rfl,⟨nd,rfl⟩⟩;refine ⟨_,rfl,?_⟩) | (go_at_call 49;(with_reducible refine (backfillref11_within.calls a0_4 0 1048576 false _ A14.out).mono ?_);rintro e w' ⟨rfl,⟨nd,rfl⟩⟩))
      go_ret
      exact ⟨by first | rfl | (simp [errW_none,errW_some] <;> rfl) | (simp [*,errW_none,errW_some] <;> rfl),bA⟩
     ·replace c26:=Bool.eq_false_iff.mpr c26
      subst c26
      have H1 : (some false) = some r:=by rw [if_neg (show ¬ (false = true) by decide)] at H;exact H
      clear H
      have H:=H1
      clear H1
      obtain rfl:=Option.some.inj H
      have hcz28_0 : wc.cell? ⟨gb256,0,none⟩ = some (.int .i64 a0_0):=(blk_cell BK256.out 0).trans rfl
      have hcz28_1 : wc.cell? ⟨gb256,1,none⟩ = some (.int .i64 a0_1):=(blk_cell BK256.out 1).trans rfl
      have hcz28_2 : wc.cell? ⟨gb256,2,none⟩ = some (.int .i64 a0_2):=(blk_cell BK256.out 2).trans rfl
      have hcz28_3 : wc.cell? ⟨gb256,3,none⟩ = some (.int .i64 a0_3):=(blk_cell BK256.out 3).trans rfl
      have hcz28_4 : wc.cell? ⟨gb256,4,none⟩ = some (.int .i64 a0_4):=(blk_cell BK256.out 4).trans rfl
      have hcz28_5 : wc.cell? ⟨gb256,5,none⟩ = some (.int .i64 a0_5):=(blk_cell BK256.out 5).trans rfl
      have hcz28_6 : wc.cell? ⟨gb256,6,none⟩ = some (.int .i64 a0_6):=(blk_cell BK256.out 6).trans rfl
      have hcz28_7 : wc.cell? ⟨gb256,7,none⟩ = some (.int .i64 a0_7):=(blk_cell BK256.out 7).trans rfl
      have hfz28_0:=blk_frozen BK256.out 0
      have hfz28_1:=blk_frozen BK256.out 1
      have hfz28_2:=blk_frozen BK256.out 2
      have hfz28_3:=blk_frozen BK256.out 3
      have hfz28_4:=blk_frozen BK256.out 4
      have hfz28_5:=blk_frozen BK256.out 5
      have hfz28_6:=blk_frozen BK256.out 6
      have hfz28_7:=blk_frozen BK256.out 7
      go_wp2_with (first | ((with_reducible refine gate_callee (f:=49) rfl ?_);refine goesL_ (some 20) rfl rfl Tryd.func49 (by kernel_rfl) rfl #[.int .i64 a0_3,.int .i64 1,.int .i64 1048576] rfl aA ?_;(with_reducible refine (backfillref11_within.calls a0_3 1 1048576 true _ A12.out).mono ?_);rintro e w' ⟨rfl,⟨nd,rfl⟩⟩;refine ⟨_,rfl,?_⟩) | (go_at_call 49;(with_reducible refine (backfillref11_within.calls a0_4 0 1048576 false _ A14.out).mono ?_);rintro e w' ⟨rfl,⟨nd,rfl⟩⟩))
      go_ret
      exact ⟨by first | rfl | (simp [errW_none,errW_some] <;> rfl) | (simp [*,errW_none,errW_some] <;> rfl),bA⟩
   ·replace c13:=Bool.eq_false_iff.mpr c13
    subst c13
    have H1 : (if x3_1 = true then (some false) else (some false)) = some r:=by rw [if_neg (show ¬ (false = true) by decide)] at H;exact H
    clear H
    have H:=H1
    clear H1
    by_cases c29 : x3_1 = true
    ·subst c29
     have H1 : (some false) = some r:=by rw [if_pos rfl] at H;exact H
     clear H
     have H:=H1
     clear H1
     obtain rfl:=Option.some.inj H
     have hcz30_0 : wc.cell? ⟨gb256,0,none⟩ = some (.int .i64 a0_0):=(blk_cell BK256.out 0).trans rfl
     have hcz30_1 : wc.cell? ⟨gb256,1,none⟩ = some (.int .i64 a0_1):=(blk_cell BK256.out 1).trans rfl
     have hcz30_2 : wc.cell? ⟨gb256,2,none⟩ = some (.int .i64 a0_2):=(blk_cell BK256.out 2).trans rfl
     have hcz30_3 : wc.cell? ⟨gb256,3,none⟩ = some (.int .i64 a0_3):=(blk_cell BK256.out 3).trans rfl
     have hcz30_4 : wc.cell? ⟨gb256,4,none⟩ = some (.int .i64 a0_4):=(blk_cell BK256.out 4).trans rfl
     have hcz30_5 : wc.cell? ⟨gb256,5,none⟩ = some (.int .i64 a0_5):=(blk_cell BK256.out 5).trans rfl
     have hcz30_6 : wc.cell? ⟨gb256,6,none⟩ = some (.int .i64 a0_6):=(blk_cell BK256.out 6).trans rfl
     have hcz30_7 : wc.cell? ⟨gb256,7,none⟩ = some (.int .i64 a0_7):=(blk_cell BK256.out 7).trans rfl
     have hfz30_0:=blk_frozen BK256.out 0
     have hfz30_1:=blk_frozen BK256.out 1
     have hfz30_2:=blk_frozen BK256.out 2
     have hfz30_3:=blk_frozen BK256.out 3
     have hfz30_4:=blk_frozen BK256.out 4
     have hfz30_5:=blk_frozen BK256.out 5
     have hfz30_6:=blk_frozen BK256.out 6
     have hfz30_7:=blk_frozen BK256.out 7
     go_wp2_with (first | ((with_reducible refine gate_callee (f:=49) rfl ?_);refine goesL_ (some 20) rfl rfl Tryd.func49 (by kernel_rfl) rfl #[.int .i64 a0_3,.int .i64 1,.int .i64 1048576] rfl aA ?_;(with_reducible refine (backfillref11_within.calls a0_3 1 1048576 false _ A12.out).mono ?_);rintro e w' ⟨rfl,⟨nd,rfl⟩⟩;refine ⟨_,rfl,?_⟩))
     go_ret
     exact ⟨by first | rfl | (simp [errW_none,errW_some] <;> rfl) | (simp [*,errW_none,errW_some] <;> rfl),bA⟩
    ·replace c29:=Bool.eq_false_iff.mpr c29
     subst c29
     have H1 : (some false) = some r:=by rw [if_neg (show ¬ (false = true) by decide)] at H;exact H
     clear H
     have H:=H1
     clear H1
     obtain rfl:=Option.some.inj H
     have hcz31_0 : wc.cell? ⟨gb256,0,none⟩ = some (.int .i64 a0_0):=(blk_cell BK256.out 0).trans rfl
     have hcz31_1 : wc.cell? ⟨gb256,1,none⟩ = some (.int .i64 a0_1):=(blk_cell BK256.out 1).trans rfl
     have hcz31_2 : wc.cell? ⟨gb256,2,none⟩ = some (.int .i64 a0_2):=(blk_cell BK256.out 2).trans rfl
     have hcz31_3 : wc.cell? ⟨gb256,3,none⟩ = some (.int .i64 a0_3):=(blk_cell BK256.out 3).trans rfl
     have hcz31_4 : wc.cell? ⟨gb256,4,none⟩ = some (.int .i64 a0_4):=(blk_cell BK256.out 4).trans rfl
     have hcz31_5 : wc.cell? ⟨gb256,5,none⟩ = some (.int .i64 a0_5):=(blk_cell BK256.out 5).trans rfl
     have hcz31_6 : wc.cell? ⟨gb256,6,none⟩ = some (.int .i64 a0_6):=(blk_cell BK256.out 6).trans rfl
     have hcz31_7 : wc.cell? ⟨gb256,7,none⟩ = some (.int .i64 a0_7):=(blk_cell BK256.out 7).trans rfl
     have hfz31_0:=blk_frozen BK256.out 0
     have hfz31_1:=blk_frozen BK256.out 1
     have hfz31_2:=blk_frozen BK256.out 2
     have hfz31_3:=blk_frozen BK256.out 3
     have hfz31_4:=blk_frozen BK256.out 4
     have hfz31_5:=blk_frozen BK256.out 5
     have hfz31_6:=blk_frozen BK256.out 6
     have hfz31_7:=blk_frozen BK256.out 7
     go_wp2_with (first | ((with_reducible refine gate_callee (f:=49) rfl ?_);refine goesL_ (some 20) rfl rfl Tryd.func49 (by kernel_rfl) rfl #[.int .i64 a0_3,.int .i64 1,.int .i64 1048576] rfl aA ?_;(with_reducible refine (backfillref11_within.calls a0_3 1 1048576 false _ A12.out).mono ?_);rintro e w' ⟨rfl,⟨nd,rfl⟩⟩;refine ⟨_,rfl,?_⟩))
     go_ret
     exact ⟨by first | rfl | (simp [errW_none,errW_some] <;> rfl) | (simp [*,errW_none,errW_some] <;> rfl),bA⟩

def backfillref11_C.f (a0_0 : Int) (a0_1 : Int) (a0_2 : Int) (a0_3 : Int) (a0_4 : Int) (a0_5 : Int) (a0_6 : Int) (a0_7 : Int) : Option (Int):=some (wrap64 (a0_0 * a0_6))
set_option maxHeartbeats 8000000 in
set_option maxRecDepth 100000 in
theorem backfillref11_C.calls (a0_0 : Int) (a0_1 : Int) (a0_2 : Int) (a0_3 : Int) (a0_4 : Int) (a0_5 : Int) (a0_6 : Int) (a0_7 : Int) (r : Int) (w : World) (h : backfillref11_C.f a0_0 a0_1 a0_2 a0_3 a0_4 a0_5 a0_6 a0_7 = some r) :
  Calls Tryd.prog 32 #[.agg #[.int .i64 a0_0,.int .i64 a0_1,.int .i64 a0_2,.int .i64 a0_3,.int .i64 a0_4,.int .i64 a0_5,.int .i64 a0_6,.int .i64 a0_7]] w fun e w' => e = .returned (.int .i64 r) ∧ Below w.heap.size w w':=by
 have hu23:=Tryd.underlying23
 have HB:=Am (Below.refl w.heap.size w)
 have H : (some (wrap64 (a0_0 * a0_6))) = some r:=h
 clear h
 obtain rfl:=Option.some.inj H
 go_enter Tryd.func32,Tryd.ntmps32
 go_wp2_with (first | ((with_reducible refine gate_dst (N:=1) rfl ?_);refine bxA 1 #[.int .i64 a0_0,.int .i64 a0_1,.int .i64 a0_2,.int .i64 a0_3,.int .i64 a0_4,.int .i64 a0_5,.int .i64 a0_6,.int .i64 a0_7] 23 ?_;intro gb265 hg w2 hbox hb;have n0_:=Am (below_step bA hb);have n1_:=Am (hbox);have n2_:=Am (gwA hg bA);have n3_:=Am (gwA hg bA);clear HB;have HB:=n0_;have BK265:=n1_;have GW265:=n2_;have GE265:=n3_;clear n0_ n1_ n2_ n3_ hb hbox hg;have hcz3_0 : w2.cell? ⟨gb265,0,none⟩ = some (.int .i64 a0_0):=(blk_cell BK265.out 0).trans rfl;have hcz3_1 : w2.cell? ⟨gb265,1,none⟩ = some (.int .i64 a0_1):=(blk_cell BK265.out 1).trans rfl;have hcz3_2 : w2.cell? ⟨gb265,2,none⟩ = some (.int .i64 a0_2):=(blk_cell BK265.out 2).trans rfl;have hcz3_3 : w2.cell? ⟨gb265,3,none⟩ = some (.int .i64 a0_3):=(blk_cell BK265.out 3).trans rfl;have hcz3_4 : w2.cell? ⟨gb265,4,none⟩ = some (.int .i64 a0_4):=(blk_cell BK265.out 4).trans rfl;have hcz3_5 : w2.cell? ⟨gb265,5,none⟩ = some (.int .i64 a0_5):=(blk_cell BK265.out 5).trans rfl;have hcz3_6 : w2.cell? ⟨gb265,6,none⟩ = some (.int .i64 a0_6):=(blk_cell BK265.out 6).trans rfl;have hcz3_7 : w2.cell? ⟨gb265,7,none⟩ = some (.int .i64 a0_7):=(blk_cell BK265.out 7).trans rfl;have hfz3_0:=blk_frozen BK265.out 0;have hfz3_1:=blk_frozen BK265.out 1;have hfz3_2:=blk_frozen BK265.out 2;have hfz3_3:=blk_frozen BK265.out 3;have hfz3_4:=blk_frozen BK265.out 4;have hfz3_5:=blk_frozen BK265.out 5;have hfz3_6:=blk_frozen BK265.out 6;have hfz3_7:=blk_frozen BK265.out 7))
 go_ret
 exact ⟨by first | rfl | (simp [errW_none,errW_some] <;> rfl) | (simp [*,errW_none,errW_some] <;> rfl),bA⟩

def backfillref10_Exponent.f (a0 : Int) (a1 : Int) : Option (Int):=if (IntKind.u64.wrap (a1)) = 0 then (none) else (some (IntKind.u64.wrap (Int.tdiv (IntKind.u64.wrap ((IntKind.u64.wrap (a0)) * 4294967296)) (IntKind.u64.wrap (a1)))))
set_option maxHeartbeats 8000000 in
set_option maxRecDepth 100000 in
theorem backfillref10_Exponent.calls (a0 : Int) (a1 : Int) (r : Int) (w : World) (h : backfillref10_Exponent.f a0 a1 = some r) :
  Calls Tryd.prog 74 #[.int .i64 a0,.int .i64 a1] w fun e w' => e = .returned (.int .u64 r) ∧ Drawn0 w w':=by
 have H : (if (IntKind.u64.wrap (a1)) = 0 then (none) else (some (IntKind.u64.wrap (Int.tdiv (IntKind.u64.wrap ((IntKind.u64.wrap (a0)) * 4294967296)) (IntKind.u64.wrap (a1)))))) = some r:=h
 clear h
 by_cases c3 : (IntKind.u64.wrap (a1)) = 0
 ·rw [if_pos c3] at H
  exact absurd H (by simp)
 ·rw [if_neg c3] at H
  have c3b0 : ((IntKind.u64.wrap (a1)) == 0) = false:=beq_eq_false_iff_ne.mpr c3
  have c3b1 : ((IntKind.u64.wrap (a1)) != 0) = true:=bne_iff_ne.mpr c3
  obtain rfl:=Option.some.inj H
  go_enter Tryd.func74,Tryd.ntmps74
  go_wp2
  go_ret
  exact ⟨by first | rfl | (simp;done) | (simp [*];done),by repeat (first | exact Drawn0.refl _ | apply Drawn0.step)⟩

def backfillref11_up.f (a0 : Int) (a1 : Int) : Option (Int):=if a1 = 0 then (none) else (some (wrap64 (Int.tdiv (wrap64 ((wrap64 (a0 + a1)) - 1)) a1)))
set_option maxHeartbeats 8000000 in
set_option maxRecDepth 100000 in
theorem backfillref11_up.calls (a0 : Int) (a1 : Int) (r : Int) (w : World) (h : backfillref11_up.f a0 a1 = some r) :
  Calls Tryd.prog 75 #[.int .i64 a0,.int .i64 a1] w fun e w' => e = .returned (.int .i64 r) ∧ Drawn0 w w':=by
 have H : (if a1 = 0 then (none) else (some (wrap64 (Int.tdiv (wrap64 ((wrap64 (a0 + a1)) - 1)) a1)))) = some r:=h
 clear h
 by_cases c3 : a1 = 0
 ·rw [if_pos c3] at H
  exact absurd H (by simp)
 ·rw [if_neg c3] at H
  have c3b0 : (a1 == 0) = false:=beq_eq_false_iff_ne.mpr c3
  have c3b1 : (a1 != 0) = true:=bne_iff_ne.mpr c3
  obtain rfl:=Option.some.inj H
  go_enter Tryd.func75,Tryd.ntmps75
  go_wp2
  go_ret
  exact ⟨by first | rfl | (simp;done) | (simp [*];done),by repeat (first | exact Drawn0.refl _ | apply Drawn0.step)⟩

def backfillref11_K.f (a0_0 : Int) (a0_1 : Int) (a0_2 : Int) (a0_3 : Int) (a0_4 : Int) (a0_5 : Int) (a0_6 : Int) (a0_7 : Int) : Option (Int):=(backfillref10_Exponent.f a0_6 a0_7).bind fun t267 => ((backfillref11_up.f 8589934592 (wrap64 (t267))).bind fun t268 => (if t268 < 2 then (some 2) else (some t268)))
set_option maxHeartbeats 8000000 in
set_option maxRecDepth 100000 in
theorem backfillref11_K.calls (a0_0 : Int) (a0_1 : Int) (a0_2 : Int) (a0_3 : Int) (a0_4 : Int) (a0_5 : Int) (a0_6 : Int) (a0_7 : Int) (r : Int) (w : World) (h : backfillref11_K.f a0_0 a0_1 a0_2 a0_3 a0_4 a0_5 a0_6 a0_7 = some r) :
  Calls Tryd.prog 50 #[.agg #[.int .i64 a0_0,.int .i64 a0_1,.int .i64 a0_2,.int .i64 a0_3,.int .i64 a0_4,.int .i64 a0_5,.int .i64 a0_6,.int .i64 a0_7]] w fun e w' => e = .returned (.int .i64 r) ∧ Below w.heap.size w w':=by
 have hu23:=Tryd.underlying23
 have HB:=Am (Below.refl w.heap.size w)
 have H : ((backfillref10_Exponent.f a0_6 a0_7).bind fun t267 => ((backfillref11_up.f 8589934592 (wrap64 (t267))).bind fun t268 => (if t268 < 2 then (some 2) else (some t268)))) = some r:=h
 clear h;replace H:=Option.bind_eq_some_iff.mp H;obtain ⟨t267,A20,H⟩:=H;replace H : ((backfillref11_up.f 8589934592 (wrap64 (t267))).bind fun t268 => (if t268 < 2 then (some 2) else (some t268))) = some r:=H;have A2:=Aside0.mk A20;clear A20;replace H:=Option.bind_eq_some_iff.mp H;obtain ⟨t268,A30,H⟩:=H;replace H : (if t268 < 2 then (some 2) else (some t268)) = some r:=H;have A3:=Aside0.mk A30;clear A30
 by_cases c4 : t268 < 2
 ·rw [if_pos c4] at H
  have c4b0 : decide (t268 < 2) = true:=decide_eq_true c4
  clear c4
  obtain rfl:=Option.some.inj H
  go_enter Tryd.func50,Tryd.ntmps50
  go_wp2_with (first | ((with_reducible refine gate_dst (N:=1) rfl ?_);refine bxA 1 #[.int .i64 a0_0,.int .i64 a0_1,.int .i64 a0_2,.int .i64 a0_3,.int .i64 a0_4,.int .i64 a0_5,.int .i64 a0_6,.int .i64 a0_7] 23 ?_;intro gb266 hg w5 hbox hb;have n0_:=Am (below_step bA hb);have n1_:=Am (hbox);have n2_:=Am (gwA hg bA);have n3_:=Am (gwA hg bA);clear HB;have HB:=n0_;have BK266:=n1_;have GW266:=n2_;have GE266:=n3_;clear n0_ n1_ n2_ n3_ hb hbox hg;have hcz6_0 : w5.cell? ⟨gb266,0,none⟩ = some (.int .i64 a0_0):=(blk_cell BK266.out 0).trans rfl;have hcz6_1 : w5.cell? ⟨gb266,1,none⟩ = some (.int .i64 a0_1):=(blk_cell BK266.out 1).trans rfl;have hcz6_2 : w5.cell? ⟨gb266,2,none⟩ = some (.int .i64 a0_2):=(blk_cell BK266.out 2).trans rfl;have hcz6_3 : w5.cell? ⟨gb266,3,none⟩ = some (.int .i64 a0_3):=(blk_cell BK266.out 3).trans rfl;have hcz6_4 : w5.cell? ⟨gb266,4,none⟩ = some (.int .i64 a0_4):=(blk_cell BK266.out 4).trans rfl;have hcz6_5 : w5.cell? ⟨gb266,5,none⟩ = some (.int .i64 a0_5):=(blk_cell BK266.out 5).trans rfl;have hcz6_6 : w5.cell? ⟨gb266,6,none⟩ = some (.int .i64 a0_6):=(blk_cell BK266.out 6).trans rfl;have hcz6_7 : w5.cell? ⟨gb266,7,none⟩ = some (.int .i64 a0_7):=(blk_cell BK266.out 7).trans rfl;have hfz6_0:=blk_frozen BK266.out 0;have hfz6_1:=blk_frozen BK266.out 1;have hfz6_2:=blk_frozen BK266.out 2;have hfz6_3:=blk_frozen BK266.out 3;have hfz6_4:=blk_frozen BK266.out 4;have hfz6_5:=blk_frozen BK266.out 5;have hfz6_6:=blk_frozen BK266.out 6;have hfz6_7:=blk_frozen BK266.out 7) | ((with_reducible refine gate_callee (f:=74) rfl ?_);refine goesL_ (some 9) rfl rfl Tryd.func74 (by kernel_rfl) rfl #[.int .i64 a0_6,.int .i64 a0_7] rfl aA ?_;(with_reducible refine (backfillref10_Exponent.calls a0_6 a0_7 t267 _ A2.out).mono ?_);rintro e w' ⟨rfl,⟨nd,rfl⟩⟩;refine ⟨_,rfl,?_⟩) | ((with_reducible refine gate_callee (f:=75) rfl ?_);refine goesL_ (some 12) rfl rfl Tryd.func75 (by kernel_rfl) rfl #[.int .i64 8589934592,.int .i64 (wrap64 (t267))] rfl aA ?_;(with_reducible refine (backfillref11_up.calls 8589934592 (wrap64 (t267)) t268 _ A3.out).mono ?_);rintro e w' ⟨rfl,⟨nd,rfl⟩⟩;refine ⟨_,rfl,?_⟩))
  go_ret
  exact ⟨by first | rfl | (simp [errW_none,errW_some] <;> rfl) | (simp [*,errW_none,errW_some] <;> rfl),bA⟩
 ·rw [if_neg c4] at H
  have c4b0 : decide (t268 < 2) = false:=decide_eq_false c4
  clear c4
  obtain rfl:=Option.some.inj H
  go_enter Tryd.func50,Tryd.ntmps50
  go_wp2_with (first | ((with_reducible refine gate_dst (N:=1) rfl ?_);refine bxA 1 #[.int .i64 a0_0,.int .i64 a0_1,.int .i64 a0_2,.int .i64 a0_3,.int .i64 a0_4,.int .i64 a0_5,.int .i64 a0_6,.int .i64 a0_7] 23 ?_;intro gb266 hg w7 hbox hb;have n0_:=Am (below_step bA hb);have n1_:=Am (hbox);have n2_:=Am (gwA hg bA);have n3_:=Am (gwA hg bA);clear HB;have HB:=n0_;have BK266:=n1_;have GW266:=n2_;have GE266:=n3_;clear n0_ n1_ n2_ n3_ hb hbox hg;have hcz8_0 : w7.cell? ⟨gb266,0,none⟩ = some (.int .i64 a0_0):=(blk_cell BK266.out 0).trans rfl;have hcz8_1 : w7.cell? ⟨gb266,1,none⟩ = some (.int .i64 a0_1):=(blk_cell BK266.out 1).trans rfl;have hcz8_2 : w7.cell? ⟨gb266,2,none⟩ = some (.int .i64 a0_2):=(blk_cell BK266.out 2).trans rfl;have hcz8_3 : w7.cell? ⟨gb266,3,none⟩ = some (.int .i64 a0_3):=(blk_cell BK266.out 3).trans rfl;have hcz8_4 : w7.cell? ⟨gb266,4,none⟩ = some (.int .i64 a0_4):=(blk_cell BK266.out 4).trans rfl;have hcz8_5 : w7.cell? ⟨gb266,5,none⟩ = some (.int .i64 a0_5):=(blk_cell BK266.out 5).trans rfl;have hcz8_6 : w7.cell? ⟨gb266,6,none⟩ = some (.int .i64 a0_6):=(blk_cell BK266.out 6).trans rfl;have hcz8_7 : w7.cell? ⟨gb266,7,none⟩ = some (.int .i64 a0_7):=(blk_cell BK266.out 7).trans rfl;have hfz8_0:=blk_frozen BK266.out 0;have hfz8_1:=blk_frozen BK266.out 1;have hfz8_2:=blk_frozen BK266.out 2;have hfz8_3:=blk_frozen BK266.out 3;have hfz8_4:=blk_frozen BK266.out 4;have hfz8_5:=blk_frozen BK266.out 5;have hfz8_6:=blk_frozen BK266.out 6;have hfz8_7:=blk_frozen BK266.out 7) | ((with_reducible refine gate_callee (f:=74) rfl ?_);refine goesL_ (some 9) rfl rfl Tryd.func74 (by kernel_rfl) rfl #[.int .i64 a0_6,.int .i64 a0_7] rfl aA ?_;(with_reducible refine (backfillref10_Exponent.calls a0_6 a0_7 t267 _ A2.out).mono ?_);rintro e w' ⟨rfl,⟨nd,rfl⟩⟩;refine ⟨_,rfl,?_⟩) | ((with_reducible refine gate_callee (f:=75) rfl ?_);refine goesL_ (some 12) rfl rfl Tryd.func75 (by kernel_rfl) rfl #[.int .i64 8589934592,.int .i64 (wrap64 (t267))] rfl aA ?_;(with_reducible refine (backfillref11_up.calls 8589934592 (wrap64 (t267)) t268 _ A3.out).mono ?_);rintro e w' ⟨rfl,⟨nd,rfl⟩⟩;refine ⟨_,rfl,?_⟩))
  go_ret
  exact ⟨by first | rfl | (simp [errW_none,errW_some] <;> rfl) | (simp [*,errW_none,errW_some] <;> rfl),bA⟩

def backfillref11_M.f (a0_0 : Int) (a0_1 : Int) (a0_2 : Int) (a0_3 : Int) (a0_4 : Int) (a0_5 : Int) (a0_6 : Int) (a0_7 : Int) : Option (Int):=(backfillref11_C.f a0_0 a0_1 a0_2 a0_3 a0_4 a0_5 a0_6 a0_7).bind fun t270 => ((backfillref11_K.f a0_0 a0_1 a0_2 a0_3 a0_4 a0_5 a0_6 a0_7).bind fun t271 => (some (wrap64 (t270 * t271))))
set_option maxHeartbeats 8000000 in
set_option maxRecDepth 100000 in
theorem backfillref11_M.calls (a0_0 : Int) (a0_1 : Int) (a0_2 : Int) (a0_3 : Int) (a0_4 : Int) (a0_5 : Int) (a0_6 : Int) (a0_7 : Int) (r : Int) (w : World) (h : backfillref11_M.f a0_0 a0_1 a0_2 a0_3 a0_4 a0_5 a0_6 a0_7 = some r) :
  Calls Tryd.prog 28 #[.agg #[.int .i64 a0_0,.int .i64 a0_1,.int .i64 a0_2,.int .i64 a0_3,.int .i64 a0_4,.int .i64 a0_5,.int .i64 a0_6,.int .i64 a0_7]] w fun e w' => e = .returned (.int .i64 r) ∧ Below w.heap.size w w':=by
 have hu23:=Tryd.underlying23
 have HB:=Am (Below.refl w.heap.size w)
 have H : ((backfillref11_C.f a0_0 a0_1 a0_2 a0_3 a0_4 a0_5 a0_6 a0_7).bind fun t270 => ((backfillref11_K.f a0_0 a0_1 a0_2 a0_3 a0_4 a0_5 a0_6 a0_7).bind fun t271 => (some (wrap64 (t270 * t271))))) = some r:=h
 clear h;replace H:=Option.bind_eq_some_iff.mp H;obtain ⟨t270,A20,H⟩:=H;replace H : ((backfillref11_K.f a0_0 a0_1 a0_2 a0_3 a0_4 a0_5 a0_6 a0_7).bind fun t271 => (some (wrap64 (t270 * t271)))) = some r:=H;have A2:=Aside0.mk A20;clear A20;replace H:=Option.bind_eq_some_iff.mp H;obtain ⟨t271,A30,H⟩:=H;replace H : (some (wrap64 (t270 * t271))) = some r:=H;have A3:=Aside0.mk A30;clear A30
 obtain rfl:=Option.some.inj H
 go_enter Tryd.func28,Tryd.ntmps28
 try go_wp2_with (first | ((with_reducible refine gate_dst (N:=1) rfl ?_);refine bxA 1 #[.int .i64 a0_0,.int .i64 a0_1,.int .i64 a0_2,.int .i64 a0_3,.int .i64 a0_4,.int .i64 a0_5,.int .i64 a0_6,.int .i64 a0_7] 23 ?_;intro gb269 hg w4 hbox hb;have n0_:=Am (below_step bA hb);have n1_:=Am (hbox);have n2_:=Am (gwA hg bA);have n3_:=Am (gwA hg bA);clear HB;have HB:=n0_;have BK269:=n1_;have GW269:=n2_;have GE269:=n3_;clear n0_ n1_ n2_ n3_ hb hbox hg))
 have n0_:=Am (blk_drew BK269.out);have n1_:=Am (below_drew1 HB.out);clear BK269 HB;have BK269:=n0_;have HB:=n1_;clear n0_ n1_
 refine start_ (n:=6) (S:=fun w' => w'.cell? ⟨gb269,0,none⟩ = some (.int .i64 a0_0) ∧ w'.cell? ⟨gb269,1,none⟩ = some (.int .i64 a0_1) ∧ w'.cell? ⟨gb269,2,none⟩ = some (.int .i64 a0_2) ∧ w'.cell? ⟨gb269,3,none⟩ = some (.int .i64 a0_3) ∧ w'.cell? ⟨gb269,4,none⟩ = some (.int .i64 a0_4) ∧ w'.cell? ⟨gb269,5,none⟩ = some (.int .i64 a0_5) ∧ w'.cell? ⟨gb269,6,none⟩ = some (.int .i64 a0_6) ∧ w'.cell? ⟨gb269,7,none⟩ = some (.int .i64 a0_7)) (ds:=[]) #[nn,nn,nn,nn,nn,nn] (by kernel_rfl) rfl rfl ⟨(blk_cell BK269.out 0).trans rfl,(blk_cell BK269.out 1).trans rfl,(blk_cell BK269.out 2).trans rfl,(blk_cell BK269.out 3).trans rfl,(blk_cell BK269.out 4).trans rfl,(blk_cell BK269.out 5).trans rfl,(blk_cell BK269.out 6).trans rfl,(blk_cell BK269.out 7).trans rfl⟩ (fun hHeld => ?_)
 generalize w4.drew = w5 at BK269 HB hHeld ⊢
 refine take_ (i:=0) (N:=some 3) (v:=?_) (a':=?_) #[yy,nn,nn,nn,nn,nn] rfl rfl (by kernel_rfl) (fun _ _ _ h => h) (Or.inl ⟨by rfl,?_⟩) hHeld ?_ ?_
 rotate_left
 ·rintro w' ⟨s0,s1,s2,s3,s4,s5,s6,s7⟩
  go_simp;with_reducible rfl
 rotate_left
 ·simp only [NR]
  rfl
 refine take_ (i:=2) (N:=some 5) (v:=?_) (a':=?_) #[yy,nn,yy,nn,nn,nn] rfl rfl (by kernel_rfl) (fun _ _ _ h => h) (Or.inl ⟨by rfl,?_⟩) hHeld ?_ ?_
 rotate_left
 ·rintro w' ⟨s0,s1,s2,s3,s4,s5,s6,s7⟩
  go_simp;with_reducible rfl
 rotate_left
 ·simp only [NR]
  rfl
 refine one_ (i:=1) (N:=some 4) #[yy,yy,yy,nn,nn,nn] rfl rfl (by kernel_rfl) (by decide) (fun K hK => ?_)
 refine goes_ Tryd.func32 (by kernel_rfl) rfl #[.agg #[.int .i64 a0_0,.int .i64 a0_1,.int .i64 a0_2,.int .i64 a0_3,.int .i64 a0_4,.int .i64 a0_5,.int .i64 a0_6,.int .i64 a0_7]] (by rfl) rfl rfl aA ?_
 with_reducible refine (backfillref11_C.calls a0_0 a0_1 a0_2 a0_3 a0_4 a0_5 a0_6 a0_7 t270 _ A2.out).mono ?_
 rintro e w6 ⟨rfl,hb⟩
 refine ⟨_,rfl,?_⟩;have n0_:=Am (blk_below (g:=gb269) kA hb);have n1_:=Am (below_step bA hb);clear BK269 HB;have BK269:=n0_;have HB:=n1_;clear n0_ n1_;(try clear hb)
 refine hK.out _ _ ⟨(blk_cell BK269.out 0).trans rfl,(blk_cell BK269.out 1).trans rfl,(blk_cell BK269.out 2).trans rfl,(blk_cell BK269.out 3).trans rfl,(blk_cell BK269.out 4).trans rfl,(blk_cell BK269.out 5).trans rfl,(blk_cell BK269.out 6).trans rfl,(blk_cell BK269.out 7).trans rfl⟩ (fun hHeld => ?_)
 clear hK K
 refine norm_ (a':=?_) ?_ ?_
 rotate_left
 ·show Act.put _ (some 4) _ = _
  simp only [NR]
  rfl
 refine one_ (i:=3) (N:=some 6) #[yy,yy,yy,yy,nn,nn] rfl rfl (by kernel_rfl) (by decide) (fun K hK => ?_)
 refine goes_ Tryd.func50 (by kernel_rfl) rfl #[.agg #[.int .i64 a0_0,.int .i64 a0_1,.int .i64 a0_2,.int .i64 a0_3,.int .i64 a0_4,.int .i64 a0_5,.int .i64 a0_6,.int .i64 a0_7]] (by rfl) rfl rfl aA ?_
 with_reducible refine (backfillref11_K.calls a0_0 a0_1 a0_2 a0_3 a0_4 a0_5 a0_6 a0_7 t271 _ A3.out).mono ?_
 rintro e w7 ⟨rfl,hb⟩
 refine ⟨_,rfl,?_⟩;have n0_:=Am (blk_below (g:=gb269) kA hb);have n1_:=Am (below_step bA hb);clear BK269 HB;have BK269:=n0_;have HB:=n1_;clear n0_ n1_;(try clear hb)
 refine hK.out _ _ ⟨(blk_cell BK269.out 0).trans rfl,(blk_cell BK269.out 1).trans rfl,(blk_cell BK269.out 2).trans rfl,(blk_cell BK269.out 3).trans rfl,(blk_cell BK269.out 4).trans rfl,(blk_cell BK269.out 5).trans rfl,(blk_cell BK269.out 6).trans rfl,(blk_cell BK269.out 7).trans rfl⟩ (fun hHeld => ?_)
 clear hK K
 refine norm_ (a':=?_) ?_ ?_
 rotate_left
 ·show Act.put _ (some 6) _ = _
  simp only [NR]
  rfl
 refine pure_ (i:=4) (N:=some 7) (v:=?_) (a':=?_) #[yy,yy,yy,yy,yy,nn] rfl rfl (by kernel_rfl) (fun _ _ _ h => h) (Or.inl ⟨by rfl,?_⟩) ?_ ?_
 rotate_left
 ·intro w'
  go_simp;with_reducible rfl
 rotate_left
 ·simp only [NR]
  rfl
 refine pure_ (i:=5) (N:=some 2) (v:=?_) (a':=?_) #[yy,yy,yy,yy,yy,yy] rfl rfl (by kernel_rfl) (fun _ _ _ h => h) (Or.inl ⟨by rfl,?_⟩) ?_ ?_
 rotate_left
 ·intro w'
  go_simp;with_reducible rfl
 rotate_left
 ·simp only [NR]
  rfl
 refine done_ (by kernel_rfl) ?_
 try go_wp2
 go_ret
 exact ⟨by first | rfl | (simp [errW_none,errW_some] <;> rfl) | (simp [*,errW_none,errW_some] <;> rfl),bA⟩

def backfillref01_Mul.f (a0 : Int) (a1 : Int) : Option (Int × Int):=some (IntKind.u64.wrap ((IntKind.u64.wrap ((IntKind.u64.wrap ((IntKind.u64.wrap ((a0 / 4294967296) * (a1 / 4294967296))) + ((IntKind.u64.wrap ((a0 / 4294967296) * (Go.bits .and .u64 a1 4294967295))) / 4294967296))) + ((IntKind.u64.wrap ((Go.bits .and .u64 a0 4294967295) * (a1 / 4294967296))) / 4294967296))) + ((IntKind.u64.wrap ((IntKind.u64.wrap (((IntKind.u64.wrap ((Go.bits .and .u64 a0 4294967295) * (Go.bits .and .u64 a1 4294967295))) / 4294967296) + (Go.bits .and .u64 (IntKind.u64.wrap ((a0 / 4294967296) * (Go.bits .and .u64 a1 4294967295))) 4294967295))) + (Go.bits .and .u64 (IntKind.u64.wrap ((Go.bits .and .u64 a0 4294967295) * (a1 / 4294967296))) 4294967295))) / 4294967296)),IntKind.u64.wrap ((IntKind.u64.wrap ((IntKind.u64.wrap ((IntKind.u64.wrap (((IntKind.u64.wrap ((Go.bits .and .u64 a0 4294967295) * (Go.bits .and .u64 a1 4294967295))) / 4294967296) + (Go.bits .and .u64 (IntKind.u64.wrap ((a0 / 4294967296) * (Go.bits .and .u64 a1 4294967295))) 4294967295))) + (Go.bits .and .u64 (IntKind.u64.wrap ((Go.bits .and .u64 a0 4294967295) * (a1 / 4294967296))) 4294967295))) * 4294967296)) + (Go.bits .and .u64 (IntKind.u64.wrap ((Go.bits .and .u64 a0 4294967295) * (Go.bits .and .u64 a1 4294967295))) 4294967295)))
set_option maxHeartbeats 8000000 in
set_option maxRecDepth 100000 in
theorem backfillref01_Mul.calls (a0 : Int) (a1 : Int) (r1 : Int) (r2 : Int) (w : World) (h : backfillref01_Mul.f a0 a1 = some (r1,r2)) :
  Calls Tryd.prog 12 #[.int .u64 a0,.int .u64 a1] w fun e w' => e = .returned (.agg #[.int .u64 r1,.int .u64 r2]) ∧ Below w.heap.size w w':=by
 have hu40:=Tryd.underlying40
 have HB:=Am (Below.refl w.heap.size w)
 have H : (some (IntKind.u64.wrap ((IntKind.u64.wrap ((IntKind.u64.wrap ((IntKind.u64.wrap ((a0 / 4294967296) * (a1 / 4294967296))) + ((IntKind.u64.wrap ((a0 / 4294967296) * (Go.bits .and .u64 a1 4294967295))) / 4294967296))) + ((IntKind.u64.wrap ((Go.bits .and .u64 a0 4294967295) * (a1 / 4294967296))) / 4294967296))) + ((IntKind.u64.wrap ((IntKind.u64.wrap (((IntKind.u64.wrap ((Go.bits .and .u64 a0 4294967295) * (Go.bits .and .u64 a1 4294967295))) / 4294967296) + (Go.bits .and .u64 (IntKind.u64.wrap ((a0 / 4294967296) * (Go.bits .and .u64 a1 4294967295))) 4294967295))) + (Go.bits .and .u64 (IntKind.u64.wrap ((Go.bits .and .u64 a0 4294967295) * (a1 / 4294967296))) 4294967295))) / 4294967296)),IntKind.u64.wrap ((IntKind.u64.wrap ((IntKind.u64.wrap ((IntKind.u64.wrap (((IntKind.u64.wrap ((Go.bits .and .u64 a0 4294967295) * (Go.bits .and .u64 a1 4294967295))) / 4294967296) + (Go.bits .and .u64 (IntKind.u64.wrap ((a0 / 4294967296) * (Go.bits .and .u64 a1 4294967295))) 4294967295))) + (Go.bits .and .u64 (IntKind.u64.wrap ((Go.bits .and .u64 a0 4294967295) * (a1 / 4294967296))) 4294967295))) * 4294967296)) + (Go.bits .and .u64 (IntKind.u64.wrap ((Go.bits .and .u64 a0 4294967295) * (Go.bits .and .u64 a1 4294967295))) 4294967295)))) = some (r1,r2):=h
 clear h
 simp only [Option.some.injEq,Prod.mk.injEq] at H
 obtain ⟨rfl,rfl⟩:=H
 go_enter Tryd.func12,Tryd.ntmps12
 go_wp2_with (first | ((with_reducible refine gate_dst (N:=4) rfl ?_);refine bxA 4 #[.int .u64 0,.int .u64 0] 40 ?_;intro gb272 hg w3 hbox hb;have n0_:=Am (below_step bA hb);have n1_:=Am (hbox);have n2_:=Am (gwA hg bA);have n3_:=Am (gwA hg bA);clear HB;have HB:=n0_;have BK272:=n1_;have GW272:=n2_;have GE272:=n3_;clear n0_ n1_ n2_ n3_ hb hbox hg;have hcz4_0 : w3.cell? ⟨gb272,0,none⟩ = some (.int .u64 0):=(blk_cell BK272.out 0).trans rfl;have hcz4_1 : w3.cell? ⟨gb272,1,none⟩ = some (.int .u64 0):=(blk_cell BK272.out 1).trans rfl;have hfz4_0:=blk_frozen BK272.out 0;have hfz4_1:=blk_frozen BK272.out 1))
 refine bodyPost_ret (results_cell_row rfl _ _ gb272 40 #[.int .u64 (IntKind.u64.wrap ((IntKind.u64.wrap ((IntKind.u64.wrap ((IntKind.u64.wrap ((a0 / 4294967296) * (a1 / 4294967296))) + ((IntKind.u64.wrap ((a0 / 4294967296) * (Go.bits .and .u64 a1 4294967295))) / 4294967296))) + ((IntKind.u64.wrap ((Go.bits .and .u64 a0 4294967295) * (a1 / 4294967296))) / 4294967296))) + ((IntKind.u64.wrap ((IntKind.u64.wrap (((IntKind.u64.wrap ((Go.bits .and .u64 a0 4294967295) * (Go.bits .and .u64 a1 4294967295))) / 4294967296) + (Go.bits .and .u64 (IntKind.u64.wrap ((a0 / 4294967296) * (Go.bits .and .u64 a1 4294967295))) 4294967295))) + (Go.bits .and .u64 (IntKind.u64.wrap ((Go.bits .and .u64 a0 4294967295) * (a1 / 4294967296))) 4294967295))) / 4294967296))),.int .u64 (IntKind.u64.wrap ((IntKind.u64.wrap ((IntKind.u64.wrap ((IntKind.u64.wrap (((IntKind.u64.wrap ((Go.bits .and .u64 a0 4294967295) * (Go.bits .and .u64 a1 4294967295))) / 4294967296) + (Go.bits .and .u64 (IntKind.u64.wrap ((a0 / 4294967296) * (Go.bits .and .u64 a1 4294967295))) 4294967295))) + (Go.bits .and .u64 (IntKind.u64.wrap ((Go.bits .and .u64 a0 4294967295) * (a1 / 4294967296))) 4294967295))) * 4294967296)) + (Go.bits .and .u64 (IntKind.u64.wrap ((Go.bits .and .u64 a0 4294967295) * (Go.bits .and .u64 a1 4294967295))) 4294967295)))] (0,0) _ rfl (by (with_reducible repeat (first | refine b1 ?_ _ | refine b2 ?_ | refine b3 ?_ _));refine blk_put (cs:=#[.int .u64 (IntKind.u64.wrap ((IntKind.u64.wrap ((IntKind.u64.wrap ((IntKind.u64.wrap ((a0 / 4294967296) * (a1 / 4294967296))) + ((IntKind.u64.wrap ((a0 / 4294967296) * (Go.bits .and .u64 a1 4294967295))) / 4294967296))) + ((IntKind.u64.wrap ((Go.bits .and .u64 a0 4294967295) * (a1 / 4294967296))) / 4294967296))) + ((IntKind.u64.wrap ((IntKind.u64.wrap (((IntKind.u64.wrap ((Go.bits .and .u64 a0 4294967295) * (Go.bits .and .u64 a1 4294967295))) / 4294967296) + (Go.bits .and .u64 (IntKind.u64.wrap ((a0 / 4294967296) * (Go.bits .and .u64 a1 4294967295))) 4294967295))) + (Go.bits .and .u64 (IntKind.u64.wrap ((Go.bits .and .u64 a0 4294967295) * (a1 / 4294967296))) 4294967295))) / 4294967296))),.int .u64 0]) ?_ 1 _ rfl;(with_reducible repeat (first | refine b1 ?_ _ | refine b2 ?_ | refine b3 ?_ _));refine blk_put (cs:=#[.int .u64 0,.int .u64 0]) ?_ 0 _ rfl;exact kA) Tryd.underlying40 rfl (by kernel_rfl)) rfl ?_
 exact ⟨by first | rfl | (simp [errW_none,errW_some] <;> rfl) | (simp [*,errW_none,errW_some] <;> rfl),bA⟩

def backfillref01_greatest.f  : Option (Int × Int):=some (18446744073709551615,18446744073709551615)
set_option maxHeartbeats 8000000 in
set_option maxRecDepth 100000 in
theorem backfillref01_greatest.calls  (r1 : Int) (r2 : Int) (w : World) (h : backfillref01_greatest.f  = some (r1,r2)) :
  Calls Tryd.prog 54 #[] w fun e w' => e = .returned (.agg #[.int .u64 r1,.int .u64 r2]) ∧ Below w.heap.size w w':=by
 have hu40:=Tryd.underlying40
 have HB:=Am (Below.refl w.heap.size w)
 have H : (some (18446744073709551615,18446744073709551615)) = some (r1,r2):=h
 clear h
 simp only [Option.some.injEq,Prod.mk.injEq] at H
 obtain ⟨rfl,rfl⟩:=H
 go_enter Tryd.func54,Tryd.ntmps54
 go_wp2_with (first | ((with_reducible refine gate_dst (N:=0) rfl ?_);refine bxA 0 #[.int .u64 0,.int .u64 0] 40 ?_;intro gb273 hg w1 hbox hb;have n0_:=Am (below_step bA hb);have n1_:=Am (hbox);have n2_:=Am (gwA hg bA);have n3_:=Am (gwA hg bA);clear HB;have HB:=n0_;have BK273:=n1_;have GW273:=n2_;have GE273:=n3_;clear n0_ n1_ n2_ n3_ hb hbox hg;have hcz2_0 : w1.cell? ⟨gb273,0,none⟩ = some (.int .u64 0):=(blk_cell BK273.out 0).trans rfl;have hcz2_1 : w1.cell? ⟨gb273,1,none⟩ = some (.int .u64 0):=(blk_cell BK273.out 1).trans rfl;have hfz2_0:=blk_frozen BK273.out 0;have hfz2_1:=blk_frozen BK273.out 1))
 refine bodyPost_ret (results_cell_row rfl _ _ gb273 40 #[.int .u64 18446744073709551615,.int .u64 18446744073709551615] (0,0) _ rfl (by (with_reducible repeat (first | refine b1 ?_ _ | refine b2 ?_ | refine b3 ?_ _));refine blk_put (cs:=#[.int .u64 18446744073709551615,.int .u64 0]) ?_ 1 _ rfl;(with_reducible repeat (first | refine b1 ?_ _ | refine b2 ?_ | refine b3 ?_ _));refine blk_put (cs:=#[.int .u64 0,.int .u64 0]) ?_ 0 _ rfl;exact kA) Tryd.underlying40 rfl (by kernel_rfl)) rfl ?_
 exact ⟨by first | rfl | (simp [errW_none,errW_some] <;> rfl) | (simp [*,errW_none,errW_some] <;> rfl),bA⟩

def backfillref01_Add.f (a0_0 : Int) (a0_1 : Int) (a1_0 : Int) (a1_1 : Int) : Option (Int × Int × Bool):=if (IntKind.u64.wrap (a0_1 + a1_1)) < a0_1 then (if (IntKind.u64.wrap (a0_0 + a1_0)) ≥ a0_0 then (if ((IntKind.u64.wrap ((IntKind.u64.wrap (a0_0 + a1_0)) + 1)) > 0) then (some (IntKind.u64.wrap ((IntKind.u64.wrap (a0_0 + a1_0)) + 1),IntKind.u64.wrap (a0_1 + a1_1),true)) else ((backfillref01_greatest.f).bind fun bt278 => (some (bt278.1,bt278.2,false)))) else ((backfillref01_greatest.f).bind fun bt280 => (some (bt280.1,bt280.2,false)))) else (if ((IntKind.u64.wrap (a0_0 + a1_0)) ≥ a0_0) then (some (IntKind.u64.wrap (a0_0 + a1_0),IntKind.u64.wrap (a0_1 + a1_1),true)) else ((backfillref01_greatest.f).bind fun bt282 => (some (bt282.1,bt282.2,false))))
set_option maxHeartbeats 8000000 in
set_option maxRecDepth 100000 in
theorem backfillref01_Add.calls (a0_0 : Int) (a0_1 : Int) (a1_0 : Int) (a1_1 : Int) (r1 : Int) (r2 : Int) (r3 : Bool) (w : World) (h : backfillref01_Add.f a0_0 a0_1 a1_0 a1_1 = some (r1,r2,r3)) :
  Calls Tryd.prog 53 #[.agg #[.int .u64 a0_0,.int .u64 a0_1],.agg #[.int .u64 a1_0,.int .u64 a1_1]] w fun e w' => e = .returned (.tuple #[.agg #[.int .u64 r1,.int .u64 r2],.bool r3]) ∧ Below w.heap.size w w':=by
 have hu40:=Tryd.underlying40
 have HB:=Am (Below.refl w.heap.size w)
 have H : (if (IntKind.u64.wrap (a0_1 + a1_1)) < a0_1 then (if (IntKind.u64.wrap (a0_0 + a1_0)) ≥ a0_0 then (if ((IntKind.u64.wrap ((IntKind.u64.wrap (a0_0 + a1_0)) + 1)) > 0) then (some (IntKind.u64.wrap ((IntKind.u64.wrap (a0_0 + a1_0)) + 1),IntKind.u64.wrap (a0_1 + a1_1),true)) else ((backfillref01_greatest.f).bind fun bt278 => (some (bt278.1,bt278.2,false)))) else ((backfillref01_greatest.f).bind fun bt280 => (some (bt280.1,bt280.2,false)))) else (if ((IntKind.u64.wrap (a0_0 + a1_0)) ≥ a0_0) then (some (IntKind.u64.wrap (a0_0 + a1_0),IntKind.u64.wrap (a0_1 + a1_1),true)) else ((backfillref01_greatest.f).bind fun bt282 => (some (bt282.1,bt282.2,false))))) = some (r1,r2,r3):=h
 clear h
 by_cases c3 : (IntKind.u64.wrap (a0_1 + a1_1)) < a0_1
 ·rw [if_pos c3] at H
  have c3b0 : decide ((IntKind.u64.wrap (a0_1 + a1_1)) < a0_1) = true:=decide_eq_true c3
  clear c3
  by_cases c4 : (IntKind.u64.wrap (a0_0 + a1_0)) ≥ a0_0
  ·rw [if_pos c4] at H
   have c4b0 : decide (a0_0 ≤ (IntKind.u64.wrap (a0_0 + a1_0))) = true:=decide_eq_true c4
   clear c4
   by_cases c5 : ((IntKind.u64.wrap ((IntKind.u64.wrap (a0_0 + a1_0)) + 1)) > 0)
   ·rw [if_pos c5] at H
    have c5b0 : decide (0 < (IntKind.u64.wrap ((IntKind.u64.wrap (a0_0 + a1_0)) + 1))) = true:=decide_eq_true c5
    clear c5
    simp only [Option.some.injEq,Prod.mk.injEq] at H
    obtain ⟨rfl,rfl,rfl⟩:=H
    go_enter Tryd.func53,Tryd.ntmps53
    go_wp2_with (first | ((with_reducible refine gate_dst (N:=2) rfl ?_);refine bxA 2 #[.int .u64 a0_0,.int .u64 a0_1] 40 ?_;intro gb274 hg w6 hbox hb;have n0_:=Am (below_step bA hb);have n1_:=Am (hbox);have n2_:=Am (gwA hg bA);have n3_:=Am (gwA hg bA);clear HB;have HB:=n0_;have BK274:=n1_;have GW274:=n2_;have GE274:=n3_;clear n0_ n1_ n2_ n3_ hb hbox hg) | ((with_reducible refine gate_dst (N:=3) rfl ?_);refine bxA 3 #[.int .u64 a1_0,.int .u64 a1_1] 40 ?_;intro gb275 hg w7 hbox hb;have n0_:=Am (blk_below (g:=gb274) kA hb);have n1_:=Am (below_step bA hb);have n2_:=Am (hbox);have n3_:=Am (gwA hg bA);have n4_:=Am (gwA hg bA);have n5_:=Am (neA (g:=gb274) hg kA);have n6_:=Am (neB (g:=gb274) hg kA);clear BK274 HB;have BK274:=n0_;have HB:=n1_;have BK275:=n2_;have GW275:=n3_;have GE275:=n4_;have NB274_275:=n5_;have NB275_274:=n6_;clear n0_ n1_ n2_ n3_ n4_ n5_ n6_ hb hbox hg) | ((with_reducible refine gate_dst (N:=4) rfl ?_);refine bxA 4 #[.int .u64 0,.int .u64 0] 40 ?_;intro gb276 hg w8 hbox hb;have n0_:=Am (blk_below (g:=gb274) kA hb);have n1_:=Am (blk_below (g:=gb275) kA hb);have n2_:=Am (below_step bA hb);have n3_:=Am (hbox);have n4_:=Am (gwA hg bA);have n5_:=Am (gwA hg bA);have n6_:=Am (neA (g:=gb274) hg kA);have n7_:=Am (neB (g:=gb274) hg kA);have n8_:=Am (neA (g:=gb275) hg kA);have n9_:=Am (neB (g:=gb275) hg kA);clear BK274 BK275 HB;have BK274:=n0_;have BK275:=n1_;have HB:=n2_;have BK276:=n3_;have GW276:=n4_;have GE276:=n5_;have NB274_276:=n6_;have NB276_274:=n7_;have NB275_276:=n8_;have NB276_275:=n9_;clear n0_ n1_ n2_ n3_ n4_ n5_ n6_ n7_ n8_ n9_ hb hbox hg;have hnb9:=NB274_275.out;have hnc9:=NB275_274.out;have hnb10:=NB274_276.out;have hnc10:=NB276_274.out;have hcz11_0 : w8.cell? ⟨gb274,0,none⟩ = some (.int .u64 a0_0):=(blk_cell BK274.out 0).trans rfl;have hcz11_1 : w8.cell? ⟨gb274,1,none⟩ = some (.int .u64 a0_1):=(blk_cell BK274.out 1).trans rfl;have hfz11_0:=blk_frozen BK274.out 0;have hfz11_1:=blk_frozen BK274.out 1;have hnb12:=NB275_276.out;have hnc12:=NB276_275.out;have hcz13_0 : w8.cell? ⟨gb275,0,none⟩ = some (.int .u64 a1_0):=(blk_cell BK275.out 0).trans rfl;have hcz13_1 : w8.cell? ⟨gb275,1,none⟩ = some (.int .u64 a1_1):=(blk_cell BK275.out 1).trans rfl;have hfz13_0:=blk_frozen BK275.out 0;have hfz13_1:=blk_frozen BK275.out 1) | ((with_reducible refine gate_dst (N:=6) rfl ?_);refine bxA 6 #[.int .u64 0,.int .u64 0] 40 ?_;intro gb277 hg w14 hbox hb;have n0_:=Am (blk_below (g:=gb274) kA hb);have n1_:=Am (blk_below (g:=gb275) kA hb);have n2_:=Am (blk_below (g:=gb276) kA hb);have n3_:=Am (below_step bA hb);have n4_:=Am (hbox);have n5_:=Am (gwA hg bA);have n6_:=Am (gwA hg bA);have n7_:=Am (neA (g:=gb274) hg kA);have n8_:=Am (neB (g:=gb274) hg kA);have n9_:=Am (neA (g:=gb275) hg kA);have n10_:=Am (neB (g:=gb275) hg kA);have n11_:=Am (neA (g:=gb276) hg kA);have n12_:=Am (neB (g:=gb276) hg kA);clear BK274 BK275 BK276 HB;have BK274:=n0_;have BK275:=n1_;have BK276:=n2_;have HB:=n3_;have BK277:=n4_;have GW277:=n5_;have GE277:=n6_;have NB274_277:=n7_;have NB277_274:=n8_;have NB275_277:=n9_;have NB277_275:=n10_;have NB276_277:=n11_;have NB277_276:=n12_;clear n0_ n1_ n2_ n3_ n4_ n5_ n6_ n7_ n8_ n9_ n10_ n11_ n12_ hb hbox hg;have hnb15:=NB277_274.out;have hnc15:=NB274_277.out;have hnb16:=NB277_275.out;have hnc16:=NB275_277.out;have hnb17:=NB277_276.out;have hnc17:=NB276_277.out;have hcz18_0 : w14.cell? ⟨gb277,0,none⟩ = some (.int .u64 0):=(blk_cell BK277.out 0).trans rfl;have hcz18_1 : w14.cell? ⟨gb277,1,none⟩ = some (.int .u64 0):=(blk_cell BK277.out 1).trans rfl;have hfz18_0:=blk_frozen BK277.out 0;have hfz18_1:=blk_frozen BK277.out 1;have hcz19_0 : w14.cell? ⟨gb274,0,none⟩ = some (.int .u64 a0_0):=(blk_cell BK274.out 0).trans rfl;have hcz19_1 : w14.cell? ⟨gb274,1,none⟩ = some (.int .u64 a0_1):=(blk_cell BK274.out 1).trans rfl;have hfz19_0:=blk_frozen BK274.out 0;have hfz19_1:=blk_frozen BK274.out 1;have hcz20_0 : w14.cell? ⟨gb276,0,none⟩ = some (.int .u64 0):=(blk_cell BK276.out 0).trans rfl;have hcz20_1 : w14.cell? ⟨gb276,1,none⟩ = some (.int .u64 0):=(blk_cell BK276.out 1).trans rfl;have hfz20_0:=blk_frozen BK276.out 0;have hfz20_1:=blk_frozen BK276.out 1))
    refine bodyPost_ret (results_ct rfl _ _ gb276 40 #[.int .u64 (IntKind.u64.wrap ((IntKind.u64.wrap (a0_0 + a1_0)) + 1)),.int .u64 (IntKind.u64.wrap (a0_1 + a1_1))] (0,0) _ rfl (by (with_reducible repeat (first | refine b1 ?_ _ | refine b2 ?_ | refine b3 ?_ _));refine blk_put (cs:=#[.int .u64 (IntKind.u64.wrap ((IntKind.u64.wrap (a0_0 + a1_0)) + 1)),.int .u64 0]) ?_ 1 _ rfl;(with_reducible repeat (first | refine b1 ?_ _ | refine b2 ?_ | refine b3 ?_ _));refine blk_put (cs:=#[.int .u64 0,.int .u64 0]) ?_ 0 _ rfl;(with_reducible repeat (first | refine b1 ?_ _ | refine b2 ?_ | refine b3 ?_ _));refine blk_far ?_ NB276_277.out _;(with_reducible repeat (first | refine b1 ?_ _ | refine b2 ?_ | refine b3 ?_ _));refine blk_far ?_ NB276_277.out _;(with_reducible repeat (first | refine b1 ?_ _ | refine b2 ?_ | refine b3 ?_ _));refine blk_far ?_ NB276_277.out _;exact kA) Tryd.underlying40 rfl (by kernel_rfl)) rfl ?_
    exact ⟨by first | rfl | (simp [errW_none,errW_some] <;> rfl) | (simp [*,errW_none,errW_some] <;> rfl),bA⟩
   ·rw [if_neg c5] at H
    have c5b0 : decide (0 < (IntKind.u64.wrap ((IntKind.u64.wrap (a0_0 + a1_0)) + 1))) = false:=decide_eq_false c5
    clear c5;replace H:=Option.bind_eq_some_iff.mp H;obtain ⟨⟨t278,t279⟩,A210,H⟩:=H;replace H : (some (t278,t279,false)) = some (r1,r2,r3):=H;have A21:=Aside0.mk A210;clear A210
    simp only [Option.some.injEq,Prod.mk.injEq] at H
    obtain ⟨rfl,rfl,rfl⟩:=H
    go_enter Tryd.func53,Tryd.ntmps53
    go_wp2_with (first | ((with_reducible refine gate_dst (N:=2) rfl ?_);refine bxA 2 #[.int .u64 a0_0,.int .u64 a0_1] 40 ?_;intro gb274 hg w22 hbox hb;have n0_:=Am (below_step bA hb);have n1_:=Am (hbox);have n2_:=Am (gwA hg bA);have n3_:=Am (gwA hg bA);clear HB;have HB:=n0_;have BK274:=n1_;have GW274:=n2_;have GE274:=n3_;clear n0_ n1_ n2_ n3_ hb hbox hg) | ((with_reducible refine gate_dst (N:=3) rfl ?_);refine bxA 3 #[.int .u64 a1_0,.int .u64 a1_1] 40 ?_;intro gb275 hg w23 hbox hb;have n0_:=Am (blk_below (g:=gb274) kA hb);have n1_:=Am (below_step bA hb);have n2_:=Am (hbox);have n3_:=Am (gwA hg bA);have n4_:=Am (gwA hg bA);have n5_:=Am (neA (g:=gb274) hg kA);have n6_:=Am (neB (g:=gb274) hg kA);clear BK274 HB;have BK274:=n0_;have HB:=n1_;have BK275:=n2_;have GW275:=n3_;have GE275:=n4_;have NB274_275:=n5_;have NB275_274:=n6_;clear n0_ n1_ n2_ n3_ n4_ n5_ n6_ hb hbox hg) | ((with_reducible refine gate_dst (N:=4) rfl ?_);refine bxA 4 #[.int .u64 0,.int .u64 0] 40 ?_;intro gb276 hg w24 hbox hb;have n0_:=Am (blk_below (g:=gb274) kA hb);have n1_:=Am (blk_below (g:=gb275) kA hb);have n2_:=Am (below_step bA hb);have n3_:=Am (hbox);have n4_:=Am (gwA hg bA);have n5_:=Am (gwA hg bA);have n6_:=Am (neA (g:=gb274) hg kA);have n7_:=Am (neB (g:=gb274) hg kA);have n8_:=Am (neA (g:=gb275) hg kA);have n9_:=Am (neB (g:=gb275) hg kA);clear BK274 BK275 HB;have BK274:=n0_;have BK275:=n1_;have HB:=n2_;have BK276:=n3_;have GW276:=n4_;have GE276:=n5_;have NB274_276:=n6_;have NB276_274:=n7_;have NB275_276:=n8_;have NB276_275:=n9_;clear n0_ n1_ n2_ n3_ n4_ n5_ n6_ n7_ n8_ n9_ hb hbox hg;have hnb25:=NB274_275.out;have hnc25:=NB275_274.out;have hnb26:=NB274_276.out;have hnc26:=NB276_274.out;have hcz27_0 : w24.cell? ⟨gb274,0,none⟩ = some (.int .u64 a0_0):=(blk_cell BK274.out 0).trans rfl;have hcz27_1 : w24.cell? ⟨gb274,1,none⟩ = some (.int .u64 a0_1):=(blk_cell BK274.out 1).trans rfl;have hfz27_0:=blk_frozen BK274.out 0;have hfz27_1:=blk_frozen BK274.out 1;have hnb28:=NB275_276.out;have hnc28:=NB276_275.out;have hcz29_0 : w24.cell? ⟨gb275,0,none⟩ = some (.int .u64 a1_0):=(blk_cell BK275.out 0).trans rfl;have hcz29_1 : w24.cell? ⟨gb275,1,none⟩ = some (.int .u64 a1_1):=(blk_cell BK275.out 1).trans rfl;have hfz29_0:=blk_frozen BK275.out 0;have hfz29_1:=blk_frozen BK275.out 1) | ((with_reducible refine gate_dst (N:=6) rfl ?_);refine bxA 6 #[.int .u64 0,.int .u64 0] 40 ?_;intro gb277 hg w30 hbox hb;have n0_:=Am (blk_below (g:=gb274) kA hb);have n1_:=Am (blk_below (g:=gb275) kA hb);have n2_:=Am (blk_below (g:=gb276) kA hb);have n3_:=Am (below_step bA hb);have n4_:=Am (hbox);have n5_:=Am (gwA hg bA);have n6_:=Am (gwA hg bA);have n7_:=Am (neA (g:=gb274) hg kA);have n8_:=Am (neB (g:=gb274) hg kA);have n9_:=Am (neA (g:=gb275) hg kA);have n10_:=Am (neB (g:=gb275) hg kA);have n11_:=Am (neA (g:=gb276) hg kA);have n12_:=Am (neB (g:=gb276) hg kA);clear BK274 BK275 BK276 HB;have BK274:=n0_;have BK275:=n1_;have BK276:=n2_;have HB:=n3_;have BK277:=n4_;have GW277:=n5_;have GE277:=n6_;have NB274_277:=n7_;have NB277_274:=n8_;have NB275_277:=n9_;have NB277_275:=n10_;have NB276_277:=n11_;have NB277_276:=n12_;clear n0_ n1_ n2_ n3_ n4_ n5_ n6_ n7_ n8_ n9_ n10_ n11_ n12_ hb hbox hg;have hnb31:=NB277_274.out;have hnc31:=NB274_277.out;have hnb32:=NB277_275.out;have hnc32:=NB275_277.out;have hnb33:=NB277_276.out;have hnc33:=NB276_277.out;have hcz34_0 : w30.cell? ⟨gb277,0,none⟩ = some (.int .u64 0):=(blk_cell BK277.out 0).trans rfl;have hcz34_1 : w30.cell? ⟨gb277,1,none⟩ = some (.int .u64 0):=(blk_cell BK277.out 1).trans rfl;have hfz34_0:=blk_frozen BK277.out 0;have hfz34_1:=blk_frozen BK277.out 1;have hcz35_0 : w30.cell? ⟨gb274,0,none⟩ = some (.int .u64 a0_0):=(blk_cell BK274.out 0).trans rfl;have hcz35_1 : w30.cell? ⟨gb274,1,none⟩ = some (.int .u64 a0_1):=(blk_cell BK274.out 1).trans rfl;have hfz35_0:=blk_frozen BK274.out 0;have hfz35_1:=blk_frozen BK274.out 1) | ((with_reducible refine gate_callee (f:=54) rfl ?_);refine goesL_ (some 41) rfl rfl Tryd.func54 (by kernel_rfl) rfl #[] rfl aA ?_;(with_reducible refine (backfillref01_greatest.calls  t278 t279 _ A21.out).mono ?_);rintro e w36 ⟨rfl,hb⟩;refine ⟨_,rfl,?_⟩;have n0_:=Am (blk_below (g:=gb274) (o:=.cells #[.int .u64 a0_0,.int .u64 a0_1] 40 (0,0)) (by (with_reducible repeat (first | refine b1 ?_ _ | refine b2 ?_ | refine b3 ?_ _));refine blk_far ?_ NB274_277.out _;(with_reducible repeat (first | refine b1 ?_ _ | refine b2 ?_ | refine b3 ?_ _));refine blk_far ?_ NB274_277.out _;(with_reducible repeat (first | refine b1 ?_ _ | refine b2 ?_ | refine b3 ?_ _));refine blk_far ?_ NB274_277.out _;exact kA) hb);have n1_:=Am (blk_below (g:=gb275) (o:=.cells #[.int .u64 a1_0,.int .u64 a1_1] 40 (0,0)) (by (with_reducible repeat (first | refine b1 ?_ _ | refine b2 ?_ | refine b3 ?_ _));refine blk_far ?_ NB275_277.out _;(with_reducible repeat (first | refine b1 ?_ _ | refine b2 ?_ | refine b3 ?_ _));refine blk_far ?_ NB275_277.out _;(with_reducible repeat (first | refine b1 ?_ _ | refine b2 ?_ | refine b3 ?_ _));refine blk_far ?_ NB275_277.out _;exact kA) hb);have n2_:=Am (blk_below (g:=gb276) (o:=.cells #[.int .u64 0,.int .u64 0] 40 (0,0)) (by (with_reducible repeat (first | refine b1 ?_ _ | refine b2 ?_ | refine b3 ?_ _));refine blk_far ?_ NB276_277.out _;(with_reducible repeat (first | refine b1 ?_ _ | refine b2 ?_ | refine b3 ?_ _));refine blk_far ?_ NB276_277.out _;(with_reducible repeat (first | refine b1 ?_ _ | refine b2 ?_ | refine b3 ?_ _));refine blk_far ?_ NB276_277.out _;exact kA) hb);have n3_:=Am (blk_below (g:=gb277) (o:=.cells #[.int .u64 (IntKind.u64.wrap ((IntKind.u64.wrap (a0_0 + a1_0)) + 1)),.int .u64 (IntKind.u64.wrap (a0_1 + a1_1))] 40 (0,0)) (by (with_reducible repeat (first | refine b1 ?_ _ | refine b2 ?_ | refine b3 ?_ _));refine blk_put (cs:=#[.int .u64 (IntKind.u64.wrap (a0_0 + a1_0)),.int .u64 (IntKind.u64.wrap (a0_1 + a1_1))]) ?_ 0 _ rfl;(with_reducible repeat (first | refine b1 ?_ _ | refine b2 ?_ | refine b3 ?_ _));refine blk_put (cs:=#[.int .u64 (IntKind.u64.wrap (a0_0 + a1_0)),.int .u64 0]) ?_ 1 _ rfl;(with_reducible repeat (first | refine b1 ?_ _ | refine b2 ?_ | refine b3 ?_ _));refine blk_put (cs:=#[.int .u64 0,.int .u64 0]) ?_ 0 _ rfl;exact kA) hb);have n4_:=Am (below_step bA hb);clear BK274 BK275 BK276 BK277 HB;have BK274:=n0_;have BK275:=n1_;have BK276:=n2_;have BK277:=n3_;have HB:=n4_;clear n0_ n1_ n2_ n3_ n4_;(try clear hb);have hcz37_0 : w36.cell? ⟨gb276,0,none⟩ = some (.int .u64 0):=(blk_cell BK276.out 0).trans rfl;have hcz37_1 : w36.cell? ⟨gb276,1,none⟩ = some (.int .u64 0):=(blk_cell BK276.out 1).trans rfl;have hfz37_0:=blk_frozen BK276.out 0;have hfz37_1:=blk_frozen BK276.out 1))
    refine bodyPost_ret (results_ct rfl _ _ gb276 40 #[.int .u64 t278,.int .u64 t279] (0,0) _ rfl (by (with_reducible repeat (first | refine b1 ?_ _ | refine b2 ?_ | refine b3 ?_ _));refine blk_put (cs:=#[.int .u64 t278,.int .u64 0]) ?_ 1 _ rfl;(with_reducible repeat (first | refine b1 ?_ _ | refine b2 ?_ | refine b3 ?_ _));refine blk_put (cs:=#[.int .u64 0,.int .u64 0]) ?_ 0 _ rfl;exact kA) Tryd.underlying40 rfl (by kernel_rfl)) rfl ?_
    exact ⟨by first | rfl | (simp [errW_none,errW_some] <;> rfl) | (simp [*,errW_none,errW_some] <;> rfl),bA⟩
  ·rw [if_neg c4] at H
   have c4b0 : decide (a0_0 ≤ (IntKind.u64.wrap (a0_0 + a1_0))) = false:=decide_eq_false c4
   clear c4;replace H:=Option.bind_eq_some_iff.mp H;obtain ⟨⟨t280,t281⟩,A380,H⟩:=H;replace H : (some (t280,t281,false)) = some (r1,r2,r3):=H;have A38:=Aside0.mk A380;clear A380
   simp only [Option.some.injEq,Prod.mk.injEq] at H
   obtain ⟨rfl,rfl,rfl⟩:=H
   go_enter Tryd.func53,Tryd.ntmps53
   go_wp2_with (first | ((with_reducible refine gate_dst (N:=2) rfl ?_);refine bxA 2 #[.int .u64 a0_0,.int .u64 a0_1] 40 ?_;intro gb274 hg w39 hbox hb;have n0_:=Am (below_step bA hb);have n1_:=Am (hbox);have n2_:=Am (gwA hg bA);have n3_:=Am (gwA hg bA);clear HB;have HB:=n0_;have BK274:=n1_;have GW274:=n2_;have GE274:=n3_;clear n0_ n1_ n2_ n3_ hb hbox hg) | ((with_reducible refine gate_dst (N:=3) rfl ?_);refine bxA 3 #[.int .u64 a1_0,.int .u64 a1_1] 40 ?_;intro gb275 hg w40 hbox hb;have n0_:=Am (blk_below (g:=gb274) kA hb);have n1_:=Am (below_step bA hb);have n2_:=Am (hbox);have n3_:=Am (gwA hg bA);have n4_:=Am (gwA hg bA);have n5_:=Am (neA (g:=gb274) hg kA);have n6_:=Am (neB (g:=gb274) hg kA);clear BK274 HB;have BK274:=n0_;have HB:=n1_;have BK275:=n2_;have GW275:=n3_;have GE275:=n4_;have NB274_275:=n5_;have NB275_274:=n6_;clear n0_ n1_ n2_ n3_ n4_ n5_ n6_ hb hbox hg) | ((with_reducible refine gate_dst (N:=4) rfl ?_);refine bxA 4 #[.int .u64 0,.int .u64 0] 40 ?_;intro gb276 hg w41 hbox hb;have n0_:=Am (blk_below (g:=gb274) kA hb);have n1_:=Am (blk_below (g:=gb275) kA hb);have n2_:=Am (below_step bA hb);have n3_:=Am (hbox);have n4_:=Am (gwA hg bA);have n5_:=Am (gwA hg bA);have n6_:=Am (neA (g:=gb274) hg kA);have n7_:=Am (neB (g:=gb274) hg kA);have n8_:=Am (neA (g:=gb275) hg kA);have n9_:=Am (neB (g:=gb275) hg kA);clear BK274 BK275 HB;have BK274:=n0_;have BK275:=n1_;have HB:=n2_;have BK276:=n3_;have GW276:=n4_;have GE276:=n5_;have NB274_276:=n6_;have NB276_274:=n7_;have NB275_276:=n8_;have NB276_275:=n9_;clear n0_ n1_ n2_ n3_ n4_ n5_ n6_ n7_ n8_ n9_ hb hbox hg;have hnb42:=NB274_275.out;have hnc42:=NB275_274.out;have hnb43:=NB274_276.out;have hnc43:=NB276_274.out;have hcz44_0 : w41.cell? ⟨gb274,0,none⟩ = some (.int .u64 a0_0):=(blk_cell BK274.out 0).trans rfl;have hcz44_1 : w41.cell? ⟨gb274,1,none⟩ = some (.int .u64 a0_1):=(blk_cell BK274.out 1).trans rfl;have hfz44_0:=blk_frozen BK274.out 0;have hfz44_1:=blk_frozen BK274.out 1;have hnb45:=NB275_276.out;have hnc45:=NB276_275.out;have hcz46_0 : w41.cell? ⟨gb275,0,none⟩ = some (.int .u64 a1_0):=(blk_cell BK275.out 0).trans rfl;have hcz46_1 : w41.cell? ⟨gb275,1,none⟩ = some (.int .u64 a1_1):=(blk_cell BK275.out 1).trans rfl;have hfz46_0:=blk_frozen BK275.out 0;have hfz46_1:=blk_frozen BK275.out 1) | ((with_reducible refine gate_dst (N:=6) rfl ?_);refine bxA 6 #[.int .u64 0,.int .u64 0] 40 ?_;intro gb277 hg w47 hbox hb;have n0_:=Am (blk_below (g:=gb274) kA hb);have n1_:=Am (blk_below (g:=gb275) kA hb);have n2_:=Am (blk_below (g:=gb276) kA hb);have n3_:=Am (below_step bA hb);have n4_:=Am (hbox);have n5_:=Am (gwA hg bA);have n6_:=Am (gwA hg bA);have n7_:=Am (neA (g:=gb274) hg kA);have n8_:=Am (neB (g:=gb274) hg kA);have n9_:=Am (neA (g:=gb275) hg kA);have n10_:=Am (neB (g:=gb275) hg kA);have n11_:=Am (neA (g:=gb276) hg kA);have n12_:=Am (neB (g:=gb276) hg kA);clear BK274 BK275 BK276 HB;have BK274:=n0_;have BK275:=n1_;have BK276:=n2_;have HB:=n3_;have BK277:=n4_;have GW277:=n5_;have GE277:=n6_;have NB274_277:=n7_;have NB277_274:=n8_;have NB275_277:=n9_;have NB277_275:=n10_;have NB276_277:=n11_;have NB277_276:=n12_;clear n0_ n1_ n2_ n3_ n4_ n5_ n6_ n7_ n8_ n9_ n10_ n11_ n12_ hb hbox hg;have hnb48:=NB277_274.out;have hnc48:=NB274_277.out;have hnb49:=NB277_275.out;have hnc49:=NB275_277.out;have hnb50:=NB277_276.out;have hnc50:=NB276_277.out;have hcz51_0 : w47.cell? ⟨gb277,0,none⟩ = some (.int .u64 0):=(blk_cell BK277.out 0).trans rfl;have hcz51_1 : w47.cell? ⟨gb277,1,none⟩ = some (.int .u64 0):=(blk_cell BK277.out 1).trans rfl;have hfz51_0:=blk_frozen BK277.out 0;have hfz51_1:=blk_frozen BK277.out 1;have hcz52_0 : w47.cell? ⟨gb274,0,none⟩ = some (.int .u64 a0_0):=(blk_cell BK274.out 0).trans rfl;have hcz52_1 : w47.cell? ⟨gb274,1,none⟩ = some (.int .u64 a0_1):=(blk_cell BK274.out 1).trans rfl;have hfz52_0:=blk_frozen BK274.out 0;have hfz52_1:=blk_frozen BK274.out 1) | ((with_reducible refine gate_callee (f:=54) rfl ?_);refine goesL_ (some 41) rfl rfl Tryd.func54 (by kernel_rfl) rfl #[] rfl aA ?_;(with_reducible refine (backfillref01_greatest.calls  t280 t281 _ A38.out).mono ?_);rintro e w53 ⟨rfl,hb⟩;refine ⟨_,rfl,?_⟩;have n0_:=Am (blk_below (g:=gb274) (o:=.cells #[.int .u64 a0_0,.int .u64 a0_1] 40 (0,0)) (by (with_reducible repeat (first | refine b1 ?_ _ | refine b2 ?_ | refine b3 ?_ _));refine blk_far ?_ NB274_277.out _;(with_reducible repeat (first | refine b1 ?_ _ | refine b2 ?_ | refine b3 ?_ _));refine blk_far ?_ NB274_277.out _;(with_reducible repeat (first | refine b1 ?_ _ | refine b2 ?_ | refine b3 ?_ _));refine blk_far ?_ NB274_277.out _;exact kA) hb);have n1_:=Am (blk_below (g:=gb275) (o:=.cells #[.int .u64 a1_0,.int .u64 a1_1] 40 (0,0)) (by (with_reducible repeat (first | refine b1 ?_ _ | refine b2 ?_ | refine b3 ?_ _));refine blk_far ?_ NB275_277.out _;(with_reducible repeat (first | refine b1 ?_ _ | refine b2 ?_ | refine b3 ?_ _));refine blk_far ?_ NB275_277.out _;(with_reducible repeat (first | refine b1 ?_ _ | refine b2 ?_ | refine b3 ?_ _));refine blk_far ?_ NB275_277.out _;exact kA) hb);have n2_:=Am (blk_below (g:=gb276) (o:=.cells #[.int .u64 0,.int .u64 0] 40 (0,0)) (by (with_reducible repeat (first | refine b1 ?_ _ | refine b2 ?_ | refine b3 ?_ _));refine blk_far ?_ NB276_277.out _;(with_reducible repeat (first | refine b1 ?_ _ | refine b2 ?_ | refine b3 ?_ _));refine blk_far ?_ NB276_277.out _;(with_reducible repeat (first | refine b1 ?_ _ | refine b2 ?_ | refine b3 ?_ _));refine blk_far ?_ NB276_277.out _;exact kA) hb);have n3_:=Am (blk_below (g:=gb277) (o:=.cells #[.int .u64 (IntKind.u64.wrap ((IntKind.u64.wrap (a0_0 + a1_0)) + 1)),.int .u64 (IntKind.u64.wrap (a0_1 + a1_1))] 40 (0,0)) (by (with_reducible repeat (first | refine b1 ?_ _ | refine b2 ?_ | refine b3 ?_ _));refine blk_put (cs:=#[.int .u64 (IntKind.u64.wrap (a0_0 + a1_0)),.int .u64 (IntKind.u64.wrap (a0_1 + a1_1))]) ?_ 0 _ rfl;(with_reducible repeat (first | refine b1 ?_ _ | refine b2 ?_ | refine b3 ?_ _));refine blk_put (cs:=#[.int .u64 (IntKind.u64.wrap (a0_0 + a1_0)),.int .u64 0]) ?_ 1 _ rfl;(with_reducible repeat (first | refine b1 ?_ _ | refine b2 ?_ | refine b3 ?_ _));refine blk_put (cs:=#[.int .u64 0,.int .u64 0]) ?_ 0 _ rfl;exact kA) hb);have n4_:=Am (below_step bA hb);clear BK274 BK275 BK276 BK277 HB;have BK274:=n0_;have BK275:=n1_;have BK276:=n2_;have BK277:=n3_;have HB:=n4_;clear n0_ n1_ n2_ n3_ n4_;(try clear hb);have hcz54_0 : w53.cell? ⟨gb276,0,none⟩ = some (.int .u64 0):=(blk_cell BK276.out 0).trans rfl;have hcz54_1 : w53.cell? ⟨gb276,1,none⟩ = some (.int .u64 0):=(blk_cell BK276.out 1).trans rfl;have hfz54_0:=blk_frozen BK276.out 0;have hfz54_1:=blk_frozen BK276.out 1))
   refine bodyPost_ret (results_ct rfl _ _ gb276 40 #[.int .u64 t280,.int .u64 t281] (0,0) _ rfl (by (with_reducible repeat (first | refine b1 ?_ _ | refine b2 ?_ | refine b3 ?_ _));refine blk_put (cs:=#[.int .u64 t280,.int .u64 0]) ?_ 1 _ rfl;(with_reducible repeat (first | refine b1 ?_ _ | refine b2 ?_ | refine b3 ?_ _));refine blk_put (cs:=#[.int .u64 0,.int .u64 0]) ?_ 0 _ rfl;exact kA) Tryd.underlying40 rfl (by kernel_rfl)) rfl ?_
   exact ⟨by first | rfl | (simp [errW_none,errW_some] <;> rfl) | (simp [*,errW_none,errW_some] <;> rfl),bA⟩
 ·rw [if_neg c3] at H
  have c3b0 : decide ((IntKind.u64.wrap (a0_1 + a1_1)) < a0_1) = false:=decide_eq_false c3
  clear c3
  by_cases c55 : ((IntKind.u64.wrap (a0_0 + a1_0)) ≥ a0_0)
  ·rw [if_pos c55] at H
   have c55b0 : decide (a0_0 ≤ (IntKind.u64.wrap (a0_0 + a1_0))) = true:=decide_eq_true c55
   clear c55
   simp only [Option.some.injEq,Prod.mk.injEq] at H
   obtain ⟨rfl,rfl,rfl⟩:=H
   go_enter Tryd.func53,Tryd.ntmps53
   go_wp2_with (first | ((with_reducible refine gate_dst (N:=2) rfl ?_);refine bxA 2 #[.int .u64 a0_0,.int .u64 a0_1] 40 ?_;intro gb274 hg w56 hbox hb;have n0_:=Am (below_step bA hb);have n1_:=Am (hbox);have n2_:=Am (gwA hg bA);have n3_:=Am (gwA hg bA);clear HB;have HB:=n0_;have BK274:=n1_;have GW274:=n2_;have GE274:=n3_;clear n0_ n1_ n2_ n3_ hb hbox hg) | ((with_reducible refine gate_dst (N:=3) rfl ?_);refine bxA 3 #[.int .u64 a1_0,.int .u64 a1_1] 40 ?_;intro gb275 hg w57 hbox hb;have n0_:=Am (blk_below (g:=gb274) kA hb);have n1_:=Am (below_step bA hb);have n2_:=Am (hbox);have n3_:=Am (gwA hg bA);have n4_:=Am (gwA hg bA);have n5_:=Am (neA (g:=gb274) hg kA);have n6_:=Am (neB (g:=gb274) hg kA);clear BK274 HB;have BK274:=n0_;have HB:=n1_;have BK275:=n2_;have GW275:=n3_;have GE275:=n4_;have NB274_275:=n5_;have NB275_274:=n6_;clear n0_ n1_ n2_ n3_ n4_ n5_ n6_ hb hbox hg) | ((with_reducible refine gate_dst (N:=4) rfl ?_);refine bxA 4 #[.int .u64 0,.int .u64 0] 40 ?_;intro gb276 hg w58 hbox hb;have n0_:=Am (blk_below (g:=gb274) kA hb);have n1_:=Am (blk_below (g:=gb275) kA hb);have n2_:=Am (below_step bA hb);have n3_:=Am (hbox);have n4_:=Am (gwA hg bA);have n5_:=Am (gwA hg bA);have n6_:=Am (neA (g:=gb274) hg kA);have n7_:=Am (neB (g:=gb274) hg kA);have n8_:=Am (neA (g:=gb275) hg kA);have n9_:=Am (neB (g:=gb275) hg kA);clear BK274 BK275 HB;have BK274:=n0_;have BK275:=n1_;have HB:=n2_;have BK276:=n3_;have GW276:=n4_;have GE276:=n5_;have NB274_276:=n6_;have NB276_274:=n7_;have NB275_276:=n8_;have NB276_275:=n9_;clear n0_ n1_ n2_ n3_ n4_ n5_ n6_ n7_ n8_ n9_ hb hbox hg;have hnb59:=NB274_275.out;have hnc59:=NB275_274.out;have hnb60:=NB274_276.out;have hnc60:=NB276_274.out;have hcz61_0 : w58.cell? ⟨gb274,0,none⟩ = some (.int .u64 a0_0):=(blk_cell BK274.out 0).trans rfl;have hcz61_1 : w58.cell? ⟨gb274,1,none⟩ = some (.int .u64 a0_1):=(blk_cell BK274.out 1).trans rfl;have hfz61_0:=blk_frozen BK274.out 0;have hfz61_1:=blk_frozen BK274.out 1;have hnb62:=NB275_276.out;have hnc62:=NB276_275.out;have hcz63_0 : w58.cell? ⟨gb275,0,none⟩ = some (.int .u64 a1_0):=(blk_cell BK275.out 0).trans rfl;have hcz63_1 : w58.cell? ⟨gb275,1,none⟩ = some (.int .u64 a1_1):=(blk_cell BK275.out 1).trans rfl;have hfz63_0:=blk_frozen BK275.out 0;have hfz63_1:=blk_frozen BK275.out 1) | ((with_reducible refine gate_dst (N:=6) rfl ?_);refine bxA 6 #[.int .u64 0,.int .u64 0] 40 ?_;intro gb277 hg w64 hbox hb;have n0_:=Am (blk_below (g:=gb274) kA hb);have n1_:=Am (blk_below (g:=gb275) kA hb);have n2_:=Am (blk_below (g:=gb276) kA hb);have n3_:=Am (below_step bA hb);have n4_:=Am (hbox);have n5_:=Am (gwA hg bA);have n6_:=Am (gwA hg bA);have n7_:=Am (neA (g:=gb274) hg kA);have n8_:=Am (neB (g:=gb274) hg kA);have n9_:=Am (neA (g:=gb275) hg kA);have n10_:=Am (neB (g:=gb275) hg kA);have n11_:=Am (neA (g:=gb276) hg kA);have n12_:=Am (neB (g:=gb276) hg kA);clear BK274 BK275 BK276 HB;have BK274:=n0_;have BK275:=n1_;have BK276:=n2_;have HB:=n3_;have BK277:=n4_;have GW277:=n5_;have GE277:=n6_;have NB274_277:=n7_;have NB277_274:=n8_;have NB275_277:=n9_;have NB277_275:=n10_;have NB276_277:=n11_;have NB277_276:=n12_;clear n0_ n1_ n2_ n3_ n4_ n5_ n6_ n7_ n8_ n9_ n10_ n11_ n12_ hb hbox hg;have hnb65:=NB277_274.out;have hnc65:=NB274_277.out;have hnb66:=NB277_275.out;have hnc66:=NB275_277.out;have hnb67:=NB277_276.out;have hnc67:=NB276_277.out;have hcz68_0 : w64.cell? ⟨gb277,0,none⟩ = some (.int .u64 0):=(blk_cell BK277.out 0).trans rfl;have hcz68_1 : w64.cell? ⟨gb277,1,none⟩ = some (.int .u64 0):=(blk_cell BK277.out 1).trans rfl;have hfz68_0:=blk_frozen BK277.out 0;have hfz68_1:=blk_frozen BK277.out 1;have hcz69_0 : w64.cell? ⟨gb274,0,none⟩ = some (.int .u64 a0_0):=(blk_cell BK274.out 0).trans rfl;have hcz69_1 : w64.cell? ⟨gb274,1,none⟩ = some (.int .u64 a0_1):=(blk_cell BK274.out 1).trans rfl;have hfz69_0:=blk_frozen BK274.out 0;have hfz69_1:=blk_frozen BK274.out 1;have hcz70_0 : w64.cell? ⟨gb276,0,none⟩ = some (.int .u64 0):=(blk_cell BK276.out 0).trans rfl;have hcz70_1 : w64.cell? ⟨gb276,1,none⟩ = some (.int .u64 0):=(blk_cell BK276.out 1).trans rfl;have hfz70_0:=blk_frozen BK276.out 0;have hfz70_1:=blk_frozen BK276.out 1))
   refine bodyPost_ret (results_ct rfl _ _ gb276 40 #[.int .u64 (IntKind.u64.wrap (a0_0 + a1_0)),.int .u64 (IntKind.u64.wrap (a0_1 + a1_1))] (0,0) _ rfl (by (with_reducible repeat (first | refine b1 ?_ _ | refine b2 ?_ | refine b3 ?_ _));refine blk_put (cs:=#[.int .u64 (IntKind.u64.wrap (a0_0 + a1_0)),.int .u64 0]) ?_ 1 _ rfl;(with_reducible repeat (first | refine b1 ?_ _ | refine b2 ?_ | refine b3 ?_ _));refine blk_put (cs:=#[.int .u64 0,.int .u64 0]) ?_ 0 _ rfl;(with_reducible repeat (first | refine b1 ?_ _ | refine b2 ?_ | refine b3 ?_ _));refine blk_far ?_ NB276_277.out _;(with_reducible repeat (first | refine b1 ?_ _ | refine b2 ?_ | refine b3 ?_ _));refine blk_far ?_ NB276_277.out _;exact kA) Tryd.underlying40 rfl (by kernel_rfl)) rfl ?_
   exact ⟨by first | rfl | (simp [errW_none,errW_some] <;> rfl) | (simp [*,errW_none,errW_some] <;> rfl),bA⟩
  ·rw [if_neg c55] at H
   have c55b0 : decide (a0_0 ≤ (IntKind.u64.wrap (a0_0 + a1_0))) = false:=decide_eq_false c55
   clear c55;replace H:=Option.bind_eq_some_iff.mp H;obtain ⟨⟨t282,t283⟩,A710,H⟩:=H;replace H : (some (t282,t283,false)) = some (r1,r2,r3):=H;have A71:=Aside0.mk A710;clear A710
   simp only [Option.some.injEq,Prod.mk.injEq] at H
   obtain ⟨rfl,rfl,rfl⟩:=H
   go_enter Tryd.func53,Tryd.ntmps53
   go_wp2_with (first | ((with_reducible refine gate_dst (N:=2) rfl ?_);refine bxA 2 #[.int .u64 a0_0,.int .u64 a0_1] 40 ?_;intro gb274 hg w72 hbox hb;have n0_:=Am (below_step bA hb);have n1_:=Am (hbox);have n2_:=Am (gwA hg bA);have n3_:=Am (gwA hg bA);clear HB;have HB:=n0_;have BK274:=n1_;have GW274:=n2_;have GE274:=n3_;clear n0_ n1_ n2_ n3_ hb hbox hg) | ((with_reducible refine gate_dst (N:=3) rfl ?_);refine bxA 3 #[.int .u64 a1_0,.int .u64 a1_1] 40 ?_;intro gb275 hg w73 hbox hb;have n0_:=Am (blk_below (g:=gb274) kA hb);have n1_:=Am (below_step bA hb);have n2_:=Am (hbox);have n3_:=Am (gwA hg bA);have n4_:=Am (gwA hg bA);have n5_:=Am (neA (g:=gb274) hg kA);have n6_:=Am (neB (g:=gb274) hg kA);clear BK274 HB;have BK274:=n0_;have HB:=n1_;have BK275:=n2_;have GW275:=n3_;have GE275:=n4_;have NB274_275:=n5_;have NB275_274:=n6_;clear n0_ n1_ n2_ n3_ n4_ n5_ n6_ hb hbox hg) | ((with_reducible refine gate_dst (N:=4) rfl ?_);refine bxA 4 #[.int .u64 0,.int .u64 0] 40 ?_;intro gb276 hg w74 hbox hb;have n0_:=Am (blk_below (g:=gb274) kA hb);have n1_:=Am (blk_below (g:=gb275) kA hb);have n2_:=Am (below_step bA hb);have n3_:=Am (hbox);have n4_:=Am (gwA hg bA);have n5_:=Am (gwA hg bA);have n6_:=Am (neA (g:=gb274) hg kA);have n7_:=Am (neB (g:=gb274) hg kA);have n8_:=Am (neA (g:=gb275) hg kA);have n9_:=Am (neB (g:=gb275) hg kA);clear BK274 BK275 HB;have BK274:=n0_;have BK275:=n1_;have HB:=n2_;have BK276:=n3_;have GW276:=n4_;have GE276:=n5_;have NB274_276:=n6_;have NB276_274:=n7_;have NB275_276:=n8_;have NB276_275:=n9_;clear n0_ n1_ n2_ n3_ n4_ n5_ n6_ n7_ n8_ n9_ hb hbox hg;have hnb75:=NB274_275.out;have hnc75:=NB275_274.out;have hnb76:=NB274_276.out;have hnc76:=NB276_274.out;have hcz77_0 : w74.cell? ⟨gb274,0,none⟩ = some (.int .u64 a0_0):=(blk_cell BK274.out 0).trans rfl;have hcz77_1 : w74.cell? ⟨gb274,1,none⟩ = some (.int .u64 a0_1):=(blk_cell BK274.out 1).trans rfl;have hfz77_0:=blk_frozen BK274.out 0;have hfz77_1:=blk_frozen BK274.out 1;have hnb78:=NB275_276.out;have hnc78:=NB276_275.out;have hcz79_0 : w74.cell? ⟨gb275,0,none⟩ = some (.int .u64 a1_0):=(blk_cell BK275.out 0).trans rfl;have hcz79_1 : w74.cell? ⟨gb275,1,none⟩ = some (.int .u64 a1_1):=(blk_cell BK275.out 1).trans rfl;have hfz79_0:=blk_frozen BK275.out 0;have hfz79_1:=blk_frozen BK275.out 1) | ((with_reducible refine gate_dst (N:=6) rfl ?_);refine bxA 6 #[.int .u64 0,.int .u64 0] 40 ?_;intro gb277 hg w80 hbox hb;have n0_:=Am (blk_below (g:=gb274) kA hb);have n1_:=Am (blk_below (g:=gb275) kA hb);have n2_:=Am (blk_below (g:=gb276) kA hb);have n3_:=Am (below_step bA hb);have n4_:=Am (hbox);have n5_:=Am (gwA hg bA);have n6_:=Am (gwA hg bA);have n7_:=Am (neA (g:=gb274) hg kA);have n8_:=Am (neB (g:=gb274) hg kA);have n9_:=Am (neA (g:=gb275) hg kA);have n10_:=Am (neB (g:=gb275) hg kA);have n11_:=Am (neA (g:=gb276) hg kA);have n12_:=Am (neB (g:=gb276) hg kA);clear BK274 BK275 BK276 HB;have BK274:=n0_;have BK275:=n1_;have BK276:=n2_;have HB:=n3_;have BK277:=n4_;have GW277:=n5_;have GE277:=n6_;have NB274_277:=n7_;have NB277_274:=n8_;have NB275_277:=n9_;have NB277_275:=n10_;have NB276_277:=n11_;have NB277_276:=n12_;clear n0_ n1_ n2_ n3_ n4_ n5_ n6_ n7_ n8_ n9_ n10_ n11_ n12_ hb hbox hg;have hnb81:=NB277_274.out;have hnc81:=NB274_277.out;have hnb82:=NB277_275.out;have hnc82:=NB275_277.out;have hnb83:=NB277_276.out;have hnc83:=NB276_277.out;have hcz84_0 : w80.cell? ⟨gb277,0,none⟩ = some (.int .u64 0):=(blk_cell BK277.out 0).trans rfl;have hcz84_1 : w80.cell? ⟨gb277,1,none⟩ = some (.int .u64 0):=(blk_cell BK277.out 1).trans rfl;have hfz84_0:=blk_frozen BK277.out 0;have hfz84_1:=blk_frozen BK277.out 1;have hcz85_0 : w80.cell? ⟨gb274,0,none⟩ = some (.int .u64 a0_0):=(blk_cell BK274.out 0).trans rfl;have hcz85_1 : w80.cell? ⟨gb274,1,none⟩ = some (.int .u64 a0_1):=(blk_cell BK274.out 1).trans rfl;have hfz85_0:=blk_frozen BK274.out 0;have hfz85_1:=blk_frozen BK274.out 1) | ((with_reducible refine gate_callee (f:=54) rfl ?_);refine goesL_ (some 41) rfl rfl Tryd.func54 (by kernel_rfl) rfl #[] rfl aA ?_;(with_reducible refine (backfillref01_greatest.calls  t282 t283 _ A71.out).mono ?_);rintro e w86 ⟨rfl,hb⟩;refine ⟨_,rfl,?_⟩;have n0_:=Am (blk_below (g:=gb274) (o:=.cells #[.int .u64 a0_0,.int .u64 a0_1] 40 (0,0)) (by (with_reducible repeat (first | refine b1 ?_ _ | refine b2 ?_ | refine b3 ?_ _));refine blk_far ?_ NB274_277.out _;(with_reducible repeat (first | refine b1 ?_ _ | refine b2 ?_ | refine b3 ?_ _));refine blk_far ?_ NB274_277.out _;exact kA) hb);have n1_:=Am (blk_below (g:=gb275) (o:=.cells #[.int .u64 a1_0,.int .u64 a1_1] 40 (0,0)) (by (with_reducible repeat (first | refine b1 ?_ _ | refine b2 ?_ | refine b3 ?_ _));refine blk_far ?_ NB275_277.out _;(with_reducible repeat (first | refine b1 ?_ _ | refine b2 ?_ | refine b3 ?_ _));refine blk_far ?_ NB275_277.out _;exact kA) hb);have n2_:=Am (blk_below (g:=gb276) (o:=.cells #[.int .u64 0,.int .u64 0] 40 (0,0)) (by (with_reducible repeat (first | refine b1 ?_ _ | refine b2 ?_ | refine b3 ?_ _));refine blk_far ?_ NB276_277.out _;(with_reducible repeat (first | refine b1 ?_ _ | refine b2 ?_ | refine b3 ?_ _));refine blk_far ?_ NB276_277.out _;exact kA) hb);have n3_:=Am (blk_below (g:=gb277) (o:=.cells #[.int .u64 (IntKind.u64.wrap (a0_0 + a1_0)),.int .u64 (IntKind.u64.wrap (a0_1 + a1_1))] 40 (0,0)) (by (with_reducible repeat (first | refine b1 ?_ _ | refine b2 ?_ | refine b3 ?_ _));refine blk_put (cs:=#[.int .u64 (IntKind.u64.wrap (a0_0 + a1_0)),.int .u64 0]) ?_ 1 _ rfl;(with_reducible repeat (first | refine b1 ?_ _ | refine b2 ?_ | refine b3 ?_ _));refine blk_put (cs:=#[.int .u64 0,.int .u64 0]) ?_ 0 _ rfl;exact kA) hb);have n4_:=Am (below_step bA hb);clear BK274 BK275 BK276 BK277 HB;have BK274:=n0_;have BK275:=n1_;have BK276:=n2_;have BK277:=n3_;have HB:=n4_;clear n0_ n1_ n2_ n3_ n4_;(try clear hb);have hcz87_0 : w86.cell? ⟨gb276,0,none⟩ = some (.int .u64 0):=(blk_cell BK276.out 0).trans rfl;have hcz87_1 : w86.cell? ⟨gb276,1,none⟩ = some (.int .u64 0):=(blk_cell BK276.out 1).trans rfl;have hfz87_0:=blk_frozen BK276.out 0;have hfz87_1:=blk_frozen BK276.out 1))
   refine bodyPost_ret (results_ct rfl _ _ gb276 40 #[.int .u64 t282,.int .u64 t283] (0,0) _ rfl (by (with_reducible repeat (first | refine b1 ?_ _ | refine b2 ?_ | refine b3 ?_ _));refine blk_put (cs:=#[.int .u64 t282,.int .u64 0]) ?_ 1 _ rfl;(with_reducible repeat (first | refine b1 ?_ _ | refine b2 ?_ | refine b3 ?_ _));refine blk_put (cs:=#[.int .u64 0,.int .u64 0]) ?_ 0 _ rfl;exact kA) Tryd.underlying40 rfl (by kernel_rfl)) rfl ?_
   exact ⟨by first | rfl | (simp [errW_none,errW_some] <;> rfl) | (simp [*,errW_none,errW_some] <;> rfl),bA⟩

def backfillref01_Times.f (a0_0 : Int) (a0_1 : Int) (a1 : Int) : Option (Int × Int × Bool):=(backfillref01_Mul.f a0_1 a1).bind fun bt286 => ((backfillref01_Mul.f a0_0 a1).bind fun bt289 => (if bt289.1 > 0 then ((backfillref01_greatest.f).bind fun bt292 => (some (bt292.1,bt292.2,false))) else ((backfillref01_Add.f bt286.1 bt286.2 bt289.2 0).bind fun bt294 => (some (bt294.1,bt294.2.1,bt294.2.2)))))
set_option maxHeartbeats 8000000 in
set_option maxRecDepth 100000 in
theorem backfillref01_Times.calls (a0_0 : Int) (a0_1 : Int) (a1 : Int) (r1 : Int) (r2 : Int) (r3 : Bool) (w : World) (h : backfillref01_Times.f a0_0 a0_1 a1 = some (r1,r2,r3)) :
  Calls Tryd.prog 30 #[.agg #[.int .u64 a0_0,.int .u64 a0_1],.int .u64 a1] w fun e w' => e = .returned (.tuple #[.agg #[.int .u64 r1,.int .u64 r2],.bool r3]) ∧ Below w.heap.size w w':=by
 have hu40:=Tryd.underlying40
 have HB:=Am (Below.refl w.heap.size w)
 have H : ((backfillref01_Mul.f a0_1 a1).bind fun bt286 => ((backfillref01_Mul.f a0_0 a1).bind fun bt289 => (if bt289.1 > 0 then ((backfillref01_greatest.f).bind fun bt292 => (some (bt292.1,bt292.2,false))) else ((backfillref01_Add.f bt286.1 bt286.2 bt289.2 0).bind fun bt294 => (some (bt294.1,bt294.2.1,bt294.2.2)))))) = some (r1,r2,r3):=h
 clear h;replace H:=Option.bind_eq_some_iff.mp H;obtain ⟨⟨t286,t287⟩,A30,H⟩:=H;replace H : ((backfillref01_Mul.f a0_0 a1).bind fun bt289 => (if bt289.1 > 0 then ((backfillref01_greatest.f).bind fun bt292 => (some (bt292.1,bt292.2,false))) else ((backfillref01_Add.f t286 t287 bt289.2 0).bind fun bt294 => (some (bt294.1,bt294.2.1,bt294.2.2))))) = some (r1,r2,r3):=H;have A3:=Aside0.mk A30;clear A30;replace H:=Option.bind_eq_some_iff.mp H;obtain ⟨⟨t289,t290⟩,A40,H⟩:=H;replace H : (if t289 > 0 then ((backfillref01_greatest.f).bind fun bt292 => (some (bt292.1,bt292.2,false))) else ((backfillref01_Add.f t286 t287 t290 0).bind fun bt294 => (some (bt294.1,bt294.2.1,bt294.2.2)))) = some (r1,r2,r3):=H;have A4:=Aside0.mk A40;clear A40
 by_cases c5 : t289 > 0
 ·rw [if_pos c5] at H
  have c5b0 : decide (0 < t289) = true:=decide_eq_true c5
  clear c5;replace H:=Option.bind_eq_some_iff.mp H;obtain ⟨⟨t292,t293⟩,A60,H⟩:=H;replace H : (some (t292,t293,false)) = some (r1,r2,r3):=H;have A6:=Aside0.mk A60;clear A60
  simp only [Option.some.injEq,Prod.mk.injEq] at H
  obtain ⟨rfl,rfl,rfl⟩:=H
  go_enter Tryd.func30,Tryd.ntmps30
  go_wp2_with (first | ((with_reducible refine gate_dst (N:=2) rfl ?_);refine bxA 2 #[.int .u64 a0_0,.int .u64 a0_1] 40 ?_;intro gb284 hg w7 hbox hb;have n0_:=Am (below_step bA hb);have n1_:=Am (hbox);have n2_:=Am (gwA hg bA);have n3_:=Am (gwA hg bA);clear HB;have HB:=n0_;have BK284:=n1_;have GW284:=n2_;have GE284:=n3_;clear n0_ n1_ n2_ n3_ hb hbox hg) | ((with_reducible refine gate_dst (N:=4) rfl ?_);refine bxA 4 #[.int .u64 0,.int .u64 0] 40 ?_;intro gb285 hg w8 hbox hb;have n0_:=Am (blk_below (g:=gb284) kA hb);have n1_:=Am (below_step bA hb);have n2_:=Am (hbox);have n3_:=Am (gwA hg bA);have n4_:=Am (gwA hg bA);have n5_:=Am (neA (g:=gb284) hg kA);have n6_:=Am (neB (g:=gb284) hg kA);clear BK284 HB;have BK284:=n0_;have HB:=n1_;have BK285:=n2_;have GW285:=n3_;have GE285:=n4_;have NB284_285:=n5_;have NB285_284:=n6_;clear n0_ n1_ n2_ n3_ n4_ n5_ n6_ hb hbox hg;have hnb9:=NB284_285.out;have hnc9:=NB285_284.out;have hcz10_0 : w8.cell? ⟨gb284,0,none⟩ = some (.int .u64 a0_0):=(blk_cell BK284.out 0).trans rfl;have hcz10_1 : w8.cell? ⟨gb284,1,none⟩ = some (.int .u64 a0_1):=(blk_cell BK284.out 1).trans rfl;have hfz10_0:=blk_frozen BK284.out 0;have hfz10_1:=blk_frozen BK284.out 1) | ((with_reducible refine gate_callee (f:=12) rfl ?_);refine goesL_ (some 11) rfl rfl Tryd.func12 (by kernel_rfl) rfl #[.int .u64 a0_1,.int .u64 a1] rfl aA ?_;(with_reducible refine (backfillref01_Mul.calls a0_1 a1 t286 t287 _ A3.out).mono ?_);rintro e w11 ⟨rfl,hb⟩;refine ⟨_,rfl,?_⟩;have n0_:=Am (blk_below (g:=gb284) kA hb);have n1_:=Am (blk_below (g:=gb285) kA hb);have n2_:=Am (below_step bA hb);clear BK284 BK285 HB;have BK284:=n0_;have BK285:=n1_;have HB:=n2_;clear n0_ n1_ n2_;(try clear hb)) | ((with_reducible refine gate_dst (N:=6) rfl ?_);refine bxA 6 #[.int .u64 0,.int .u64 0] 40 ?_;intro gb288 hg w12 hbox hb;have n0_:=Am (blk_below (g:=gb284) kA hb);have n1_:=Am (blk_below (g:=gb285) kA hb);have n2_:=Am (below_step bA hb);have n3_:=Am (hbox);have n4_:=Am (gwA hg bA);have n5_:=Am (gwA hg bA);have n6_:=Am (neA (g:=gb284) hg kA);have n7_:=Am (neB (g:=gb284) hg kA);have n8_:=Am (neA (g:=gb285) hg kA);have n9_:=Am (neB (g:=gb285) hg kA);clear BK284 BK285 HB;have BK284:=n0_;have BK285:=n1_;have HB:=n2_;have BK288:=n3_;have GW288:=n4_;have GE288:=n5_;have NB284_288:=n6_;have NB288_284:=n7_;have NB285_288:=n8_;have NB288_285:=n9_;clear n0_ n1_ n2_ n3_ n4_ n5_ n6_ n7_ n8_ n9_ hb hbox hg;have hnb13:=NB288_284.out;have hnc13:=NB284_288.out;have hnb14:=NB288_285.out;have hnc14:=NB285_288.out;have hcz15_0 : w12.cell? ⟨gb288,0,none⟩ = some (.int .u64 0):=(blk_cell BK288.out 0).trans rfl;have hcz15_1 : w12.cell? ⟨gb288,1,none⟩ = some (.int .u64 0):=(blk_cell BK288.out 1).trans rfl;have hfz15_0:=blk_frozen BK288.out 0;have hfz15_1:=blk_frozen BK288.out 1;have hcz16_0 : w12.cell? ⟨gb284,0,none⟩ = some (.int .u64 a0_0):=(blk_cell BK284.out 0).trans rfl;have hcz16_1 : w12.cell? ⟨gb284,1,none⟩ = some (.int .u64 a0_1):=(blk_cell BK284.out 1).trans rfl;have hfz16_0:=blk_frozen BK284.out 0;have hfz16_1:=blk_frozen BK284.out 1) | ((with_reducible refine gate_callee (f:=12) rfl ?_);refine goesL_ (some 15) rfl rfl Tryd.func12 (by kernel_rfl) rfl #[.int .u64 a0_0,.int .u64 a1] rfl aA ?_;(with_reducible refine (backfillref01_Mul.calls a0_0 a1 t289 t290 _ A4.out).mono ?_);rintro e w17 ⟨rfl,hb⟩;refine ⟨_,rfl,?_⟩;have n0_:=Am (blk_below (g:=gb284) (o:=.cells #[.int .u64 a0_0,.int .u64 a0_1] 40 (0,0)) (by (with_reducible repeat (first | refine b1 ?_ _ | refine b2 ?_ | refine b3 ?_ _));refine blk_far ?_ NB284_288.out _;(with_reducible repeat (first | refine b1 ?_ _ | refine b2 ?_ | refine b3 ?_ _));refine blk_far ?_ NB284_288.out _;exact kA) hb);have n1_:=Am (blk_below (g:=gb285) (o:=.cells #[.int .u64 0,.int .u64 0] 40 (0,0)) (by (with_reducible repeat (first | refine b1 ?_ _ | refine b2 ?_ | refine b3 ?_ _));refine blk_far ?_ NB285_288.out _;(with_reducible repeat (first | refine b1 ?_ _ | refine b2 ?_ | refine b3 ?_ _));refine blk_far ?_ NB285_288.out _;exact kA) hb);have n2_:=Am (blk_below (g:=gb288) (o:=.cells #[.int .u64 t286,.int .u64 t287] 40 (0,0)) (by (with_reducible repeat (first | refine b1 ?_ _ | refine b2 ?_ | refine b3 ?_ _));refine blk_put (cs:=#[.int .u64 t286,.int .u64 0]) ?_ 1 _ rfl;(with_reducible repeat (first | refine b1 ?_ _ | refine b2 ?_ | refine b3 ?_ _));refine blk_put (cs:=#[.int .u64 0,.int .u64 0]) ?_ 0 _ rfl;exact kA) hb);have n3_:=Am (below_step bA hb);clear BK284 BK285 BK288 HB;have BK284:=n0_;have BK285:=n1_;have BK288:=n2_;have HB:=n3_;clear n0_ n1_ n2_ n3_;(try clear hb)) | ((with_reducible refine gate_dst (N:=7) rfl ?_);refine bxA 7 #[.int .u64 0,.int .u64 0] 40 ?_;intro gb291 hg w18 hbox hb;have n0_:=Am (blk_below (g:=gb284) kA hb);have n1_:=Am (blk_below (g:=gb285) kA hb);have n2_:=Am (blk_below (g:=gb288) kA hb);have n3_:=Am (below_step bA hb);have n4_:=Am (hbox);have n5_:=Am (gwA hg bA);have n6_:=Am (gwA hg bA);have n7_:=Am (neA (g:=gb284) hg kA);have n8_:=Am (neB (g:=gb284) hg kA);have n9_:=Am (neA (g:=gb285) hg kA);have n10_:=Am (neB (g:=gb285) hg kA);have n11_:=Am (neA (g:=gb288) hg kA);have n12_:=Am (neB (g:=gb288) hg kA);clear BK284 BK285 BK288 HB;have BK284:=n0_;have BK285:=n1_;have BK288:=n2_;have HB:=n3_;have BK291:=n4_;have GW291:=n5_;have GE291:=n6_;have NB284_291:=n7_;have NB291_284:=n8_;have NB285_291:=n9_;have NB291_285:=n10_;have NB288_291:=n11_;have NB291_288:=n12_;clear n0_ n1_ n2_ n3_ n4_ n5_ n6_ n7_ n8_ n9_ n10_ n11_ n12_ hb hbox hg;have hnb19:=NB291_284.out;have hnc19:=NB284_291.out;have hnb20:=NB291_285.out;have hnc20:=NB285_291.out;have hnb21:=NB291_288.out;have hnc21:=NB288_291.out;have hcz22_0 : w18.cell? ⟨gb291,0,none⟩ = some (.int .u64 0):=(blk_cell BK291.out 0).trans rfl;have hcz22_1 : w18.cell? ⟨gb291,1,none⟩ = some (.int .u64 0):=(blk_cell BK291.out 1).trans rfl;have hfz22_0:=blk_frozen BK291.out 0;have hfz22_1:=blk_frozen BK291.out 1) | ((with_reducible refine gate_callee (f:=54) rfl ?_);refine goesL_ (some 19) rfl rfl Tryd.func54 (by kernel_rfl) rfl #[] rfl aA ?_;(with_reducible refine (backfillref01_greatest.calls  t292 t293 _ A6.out).mono ?_);rintro e w23 ⟨rfl,hb⟩;refine ⟨_,rfl,?_⟩;have n0_:=Am (blk_below (g:=gb284) (o:=.cells #[.int .u64 a0_0,.int .u64 a0_1] 40 (0,0)) (by (with_reducible repeat (first | refine b1 ?_ _ | refine b2 ?_ | refine b3 ?_ _));refine blk_far ?_ NB284_291.out _;(with_reducible repeat (first | refine b1 ?_ _ | refine b2 ?_ | refine b3 ?_ _));refine blk_far ?_ NB284_291.out _;exact kA) hb);have n1_:=Am (blk_below (g:=gb285) (o:=.cells #[.int .u64 0,.int .u64 0] 40 (0,0)) (by (with_reducible repeat (first | refine b1 ?_ _ | refine b2 ?_ | refine b3 ?_ _));refine blk_far ?_ NB285_291.out _;(with_reducible repeat (first | refine b1 ?_ _ | refine b2 ?_ | refine b3 ?_ _));refine blk_far ?_ NB285_291.out _;exact kA) hb);have n2_:=Am (blk_below (g:=gb288) (o:=.cells #[.int .u64 t286,.int .u64 t287] 40 (0,0)) (by (with_reducible repeat (first | refine b1 ?_ _ | refine b2 ?_ | refine b3 ?_ _));refine blk_far ?_ NB288_291.out _;(with_reducible repeat (first | refine b1 ?_ _ | refine b2 ?_ | refine b3 ?_ _));refine blk_far ?_ NB288_291.out _;exact kA) hb);have n3_:=Am (blk_below (g:=gb291) (o:=.cells #[.int .u64 t289,.int .u64 t290] 40 (0,0)) (by (with_reducible repeat (first | refine b1 ?_ _ | refine b2 ?_ | refine b3 ?_ _));refine blk_put (cs:=#[.int .u64 t289,.int .u64 0]) ?_ 1 _ rfl;(with_reducible repeat (first | refine b1 ?_ _ | refine b2 ?_ | refine b3 ?_ _));refine blk_put (cs:=#[.int .u64 0,.int .u64 0]) ?_ 0 _ rfl;exact kA) hb);have n4_:=Am (below_step bA hb);clear BK284 BK285 BK288 BK291 HB;have BK284:=n0_;have BK285:=n1_;have BK288:=n2_;have BK291:=n3_;have HB:=n4_;clear n0_ n1_ n2_ n3_ n4_;(try clear hb);have hcz24_0 : w23.cell? ⟨gb285,0,none⟩ = some (.int .u64 0):=(blk_cell BK285.out 0).trans rfl;have hcz24_1 : w23.cell? ⟨gb285,1,none⟩ = some (.int .u64 0):=(blk_cell BK285.out 1).trans rfl;have hfz24_0:=blk_frozen BK285.out 0;have hfz24_1:=blk_frozen BK285.out 1))
  refine bodyPost_ret (results_ct rfl _ _ gb285 40 #[.int .u64 t292,.int .u64 t293] (0,0) _ rfl (by (with_reducible repeat (first | refine b1 ?_ _ | refine b2 ?_ | refine b3 ?_ _));refine blk_put (cs:=#[.int .u64 t292,.int .u64 0]) ?_ 1 _ rfl;(with_reducible repeat (first | refine b1 ?_ _ | refine b2 ?_ | refine b3 ?_ _));refine blk_put (cs:=#[.int .u64 0,.int .u64 0]) ?_ 0 _ rfl;exact kA) Tryd.underlying40 rfl (by kernel_rfl)) rfl ?_
  exact ⟨by first | rfl | (simp [errW_none,errW_some] <;> rfl) | (simp [*,errW_none,errW_some] <;> rfl),bA⟩
 ·rw [if_neg c5] at H
  have c5b0 : decide (0 < t289) = false:=decide_eq_false c5
  clear c5;replace H:=Option.bind_eq_some_iff.mp H;obtain ⟨⟨t294,t295,t296⟩,A250,H⟩:=H;replace H : (some (t294,t295,t296)) = some (r1,r2,r3):=H;have A25:=Aside0.mk A250;clear A250
  simp only [Option.some.injEq,Prod.mk.injEq] at H
  obtain ⟨rfl,rfl,rfl⟩:=H
  go_enter Tryd.func30,Tryd.ntmps30
  go_wp2_with (first | ((with_reducible refine gate_dst (N:=2) rfl ?_);refine bxA 2 #[.int .u64 a0_0,.int .u64 a0_1] 40 ?_;intro gb284 hg w26 hbox hb;have n0_:=Am (below_step bA hb);have n1_:=Am (hbox);have n2_:=Am (gwA hg bA);have n3_:=Am (gwA hg bA);clear HB;have HB:=n0_;have BK284:=n1_;have GW284:=n2_;have GE284:=n3_;clear n0_ n1_ n2_ n3_ hb hbox hg) | ((with_reducible refine gate_dst (N:=4) rfl ?_);refine bxA 4 #[.int .u64 0,.int .u64 0] 40 ?_;intro gb285 hg w27 hbox hb;have n0_:=Am (blk_below (g:=gb284) kA hb);have n1_:=Am (below_step bA hb);have n2_:=Am (hbox);have n3_:=Am (gwA hg bA);have n4_:=Am (gwA hg bA);have n5_:=Am (neA (g:=gb284) hg kA);have n6_:=Am (neB (g:=gb284) hg kA);clear BK284 HB;have BK284:=n0_;have HB:=n1_;have BK285:=n2_;have GW285:=n3_;have GE285:=n4_;have NB284_285:=n5_;have NB285_284:=n6_;clear n0_ n1_ n2_ n3_ n4_ n5_ n6_ hb hbox hg;have hnb28:=NB284_285.out;have hnc28:=NB285_284.out;have hcz29_0 : w27.cell? ⟨gb284,0,none⟩ = some (.int .u64 a0_0):=(blk_cell BK284.out 0).trans rfl;have hcz29_1 : w27.cell? ⟨gb284,1,none⟩ = some (.int .u64 a0_1):=(blk_cell BK284.out 1).trans rfl;have hfz29_0:=blk_frozen BK284.out 0;have hfz29_1:=blk_frozen BK284.out 1) | ((with_reducible refine gate_callee (f:=12) rfl ?_);refine goesL_ (some 11) rfl rfl Tryd.func12 (by kernel_rfl) rfl #[.int .u64 a0_1,.int .u64 a1] rfl aA ?_;(with_reducible refine (backfillref01_Mul.calls a0_1 a1 t286 t287 _ A3.out).mono ?_);rintro e w30 ⟨rfl,hb⟩;refine ⟨_,rfl,?_⟩;have n0_:=Am (blk_below (g:=gb284) kA hb);have n1_:=Am (blk_below (g:=gb285) kA hb);have n2_:=Am (below_step bA hb);clear BK284 BK285 HB;have BK284:=n0_;have BK285:=n1_;have HB:=n2_;clear n0_ n1_ n2_;(try clear hb)) | ((with_reducible refine gate_dst (N:=6) rfl ?_);refine bxA 6 #[.int .u64 0,.int .u64 0] 40 ?_;intro gb288 hg w31 hbox hb;have n0_:=Am (blk_below (g:=gb284) kA hb);have n1_:=Am (blk_below (g:=gb285) kA hb);have n2_:=Am (below_step bA hb);have n3_:=Am (hbox);have n4_:=Am (gwA hg bA);have n5_:=Am (gwA hg bA);have n6_:=Am (neA (g:=gb284) hg kA);have n7_:=Am (neB (g:=gb284) hg kA);have n8_:=Am (neA (g:=gb285) hg kA);have n9_:=Am (neB (g:=gb285) hg kA);clear BK284 BK285 HB;have BK284:=n0_;have BK285:=n1_;have HB:=n2_;have BK288:=n3_;have GW288:=n4_;have GE288:=n5_;have NB284_288:=n6_;have NB288_284:=n7_;have NB285_288:=n8_;have NB288_285:=n9_;clear n0_ n1_ n2_ n3_ n4_ n5_ n6_ n7_ n8_ n9_ hb hbox hg;have hnb32:=NB288_284.out;have hnc32:=NB284_288.out;have hnb33:=NB288_285.out;have hnc33:=NB285_288.out;have hcz34_0 : w31.cell? ⟨gb288,0,none⟩ = some (.int .u64 0):=(blk_cell BK288.out 0).trans rfl;have hcz34_1 : w31.cell? ⟨gb288,1,none⟩ = some (.int .u64 0):=(blk_cell BK288.out 1).trans rfl;have hfz34_0:=blk_frozen BK288.out 0;have hfz34_1:=blk_frozen BK288.out 1;have hcz35_0 : w31.cell? ⟨gb284,0,none⟩ = some (.int .u64 a0_0):=(blk_cell BK284.out 0).trans rfl;have hcz35_1 : w31.cell? ⟨gb284,1,none⟩ = some (.int .u64 a0_1):=(blk_cell BK284.out 1).trans rfl;have hfz35_0:=blk_frozen BK284.out 0;have hfz35_1:=blk_frozen BK284.out 1) | ((with_reducible refine gate_callee (f:=12) rfl ?_);refine goesL_ (some 15) rfl rfl Tryd.func12 (by kernel_rfl) rfl #[.int .u64 a0_0,.int .u64 a1] rfl aA ?_;(with_reducible refine (backfillref01_Mul.calls a0_0 a1 t289 t290 _ A4.out).mono ?_);rintro e w36 ⟨rfl,hb⟩;refine ⟨_,rfl,?_⟩;have n0_:=Am (blk_below (g:=gb284) (o:=.cells #[.int .u64 a0_0,.int .u64 a0_1] 40 (0,0)) (by (with_reducible repeat (first | refine b1 ?_ _ | refine b2 ?_ | refine b3 ?_ _));refine blk_far ?_ NB284_288.out _;(with_reducible repeat (first | refine b1 ?_ _ | refine b2 ?_ | refine b3 ?_ _));refine blk_far ?_ NB284_288.out _;exact kA) hb);have n1_:=Am (blk_below (g:=gb285) (o:=.cells #[.int .u64 0,.int .u64 0] 40 (0,0)) (by (with_reducible repeat (first | refine b1 ?_ _ | refine b2 ?_ | refine b3 ?_ _));refine blk_far ?_ NB285_288.out _;(with_reducible repeat (first | refine b1 ?_ _ | refine b2 ?_ | refine b3 ?_ _));refine blk_far ?_ NB285_288.out _;exact kA) hb);have n2_:=Am (blk_below (g:=gb288) (o:=.cells #[.int .u64 t286,.int .u64 t287] 40 (0,0)) (by (with_reducible repeat (first | refine b1 ?_ _ | refine b2 ?_ | refine b3 ?_ _));refine blk_put (cs:=#[.int .u64 t286,.int .u64 0]) ?_ 1 _ rfl;(with_reducible repeat (first | refine b1 ?_ _ | refine b2 ?_ | refine b3 ?_ _));refine blk_put (cs:=#[.int .u64 0,.int .u64 0]) ?_ 0 _ rfl;exact kA) hb);have n3_:=Am (below_step bA hb);clear BK284 BK285 BK288 HB;have BK284:=n0_;have BK285:=n1_;have BK288:=n2_;have HB:=n3_;clear n0_ n1_ n2_ n3_;(try clear hb)) | ((with_reducible refine gate_dst (N:=7) rfl ?_);refine bxA 7 #[.int .u64 0,.int .u64 0] 40 ?_;intro gb291 hg w37 hbox hb;have n0_:=Am (blk_below (g:=gb284) kA hb);have n1_:=Am (blk_below (g:=gb285) kA hb);have n2_:=Am (blk_below (g:=gb288) kA hb);have n3_:=Am (below_step bA hb);have n4_:=Am (hbox);have n5_:=Am (gwA hg bA);have n6_:=Am (gwA hg bA);have n7_:=Am (neA (g:=gb284) hg kA);have n8_:=Am (neB (g:=gb284) hg kA);have n9_:=Am (neA (g:=gb285) hg kA);have n10_:=Am (neB (g:=gb285) hg kA);have n11_:=Am (neA (g:=gb288) hg kA);have n12_:=Am (neB (g:=gb288) hg kA);clear BK284 BK285 BK288 HB;have BK284:=n0_;have BK285:=n1_;have BK288:=n2_;have HB:=n3_;have BK291:=n4_;have GW291:=n5_;have GE291:=n6_;have NB284_291:=n7_;have NB291_284:=n8_;have NB285_291:=n9_;have NB291_285:=n10_;have NB288_291:=n11_;have NB291_288:=n12_;clear n0_ n1_ n2_ n3_ n4_ n5_ n6_ n7_ n8_ n9_ n10_ n11_ n12_ hb hbox hg;have hnb38:=NB291_284.out;have hnc38:=NB284_291.out;have hnb39:=NB291_285.out;have hnc39:=NB285_291.out;have hnb40:=NB291_288.out;have hnc40:=NB288_291.out;have hcz41_0 : w37.cell? ⟨gb291,0,none⟩ = some (.int .u64 0):=(blk_cell BK291.out 0).trans rfl;have hcz41_1 : w37.cell? ⟨gb291,1,none⟩ = some (.int .u64 0):=(blk_cell BK291.out 1).trans rfl;have hfz41_0:=blk_frozen BK291.out 0;have hfz41_1:=blk_frozen BK291.out 1;have hcz42_0 : w37.cell? ⟨gb288,0,none⟩ = some (.int .u64 t286):=(blk_cell BK288.out 0).trans rfl;have hcz42_1 : w37.cell? ⟨gb288,1,none⟩ = some (.int .u64 t287):=(blk_cell BK288.out 1).trans rfl;have hfz42_0:=blk_frozen BK288.out 0;have hfz42_1:=blk_frozen BK288.out 1) | ((with_reducible refine gate_callee (f:=53) rfl ?_);refine goesL_ (some 24) rfl rfl Tryd.func53 (by kernel_rfl) rfl #[.agg #[.int .u64 t286,.int .u64 t287],.agg #[.int .u64 t290,.int .u64 0]] rfl aA ?_;(with_reducible refine (backfillref01_Add.calls t286 t287 t290 0 t294 t295 t296 _ A25.out).mono ?_);rintro e w43 ⟨rfl,hb⟩;refine ⟨_,rfl,?_⟩;have n0_:=Am (blk_below (g:=gb284) (o:=.cells #[.int .u64 a0_0,.int .u64 a0_1] 40 (0,0)) (by (with_reducible repeat (first | refine b1 ?_ _ | refine b2 ?_ | refine b3 ?_ _));refine blk_far ?_ NB284_291.out _;(with_reducible repeat (first | refine b1 ?_ _ | refine b2 ?_ | refine b3 ?_ _));refine blk_far ?_ NB284_291.out _;exact kA) hb);have n1_:=Am (blk_below (g:=gb285) (o:=.cells #[.int .u64 0,.int .u64 0] 40 (0,0)) (by (with_reducible repeat (first | refine b1 ?_ _ | refine b2 ?_ | refine b3 ?_ _));refine blk_far ?_ NB285_291.out _;(with_reducible repeat (first | refine b1 ?_ _ | refine b2 ?_ | refine b3 ?_ _));refine blk_far ?_ NB285_291.out _;exact kA) hb);have n2_:=Am (blk_below (g:=gb288) (o:=.cells #[.int .u64 t286,.int .u64 t287] 40 (0,0)) (by (with_reducible repeat (first | refine b1 ?_ _ | refine b2 ?_ | refine b3 ?_ _));refine blk_far ?_ NB288_291.out _;(with_reducible repeat (first | refine b1 ?_ _ | refine b2 ?_ | refine b3 ?_ _));refine blk_far ?_ NB288_291.out _;exact kA) hb);have n3_:=Am (blk_below (g:=gb291) (o:=.cells #[.int .u64 t289,.int .u64 t290] 40 (0,0)) (by (with_reducible repeat (first | refine b1 ?_ _ | refine b2 ?_ | refine b3 ?_ _));refine blk_put (cs:=#[.int .u64 t289,.int .u64 0]) ?_ 1 _ rfl;(with_reducible repeat (first | refine b1 ?_ _ | refine b2 ?_ | refine b3 ?_ _));refine blk_put (cs:=#[.int .u64 0,.int .u64 0]) ?_ 0 _ rfl;exact kA) hb);have n4_:=Am (below_step bA hb);clear BK284 BK285 BK288 BK291 HB;have BK284:=n0_;have BK285:=n1_;have BK288:=n2_;have BK291:=n3_;have HB:=n4_;clear n0_ n1_ n2_ n3_ n4_;(try clear hb);have hcz44_0 : w43.cell? ⟨gb285,0,none⟩ = some (.int .u64 0):=(blk_cell BK285.out 0).trans rfl;have hcz44_1 : w43.cell? ⟨gb285,1,none⟩ = some (.int .u64 0):=(blk_cell BK285.out 1).trans rfl;have hfz44_0:=blk_frozen BK285.out 0;have hfz44_1:=blk_frozen BK285.out 1))
  refine bodyPost_ret (results_ct rfl _ _ gb285 40 #[.int .u64 t294,.int .u64 t295] (0,0) _ rfl (by (with_reducible repeat (first | refine b1 ?_ _ | refine b2 ?_ | refine b3 ?_ _));refine blk_put (cs:=#[.int .u64 t294,.int .u64 0]) ?_ 1 _ rfl;(with_reducible repeat (first | refine b1 ?_ _ | refine b2 ?_ | refine b3 ?_ _));refine blk_put (cs:=#[.int .u64 0,.int .u64 0]) ?_ 0 _ rfl;exact kA) Tryd.underlying40 rfl (by kernel_rfl)) rfl ?_
  exact ⟨by first | rfl | (simp [errW_none,errW_some] <;> rfl) | (simp [*,errW_none,errW_some] <;> rfl),bA⟩

def backfillref01_Of.f (a0 : Int) : Option (Int × Int):=some (0,a0)
set_option maxHeartbeats 8000000 in
set_option maxRecDepth 100000 in
theorem backfillref01_Of.calls (a0 : Int) (r1 : Int) (r2 : Int) (w : World) (h : backfillref01_Of.f a0 = some (r1,r2)) :
  Calls Tryd.prog 51 #[.int .u64 a0] w fun e w' => e = .returned (.agg #[.int .u64 r1,.int .u64 r2]) ∧ Below w.heap.size w w':=by
 have hu40:=Tryd.underlying40
 have HB:=Am (Below.refl w.heap.size w)
 have H : (some (0,a0)) = some (r1,r2):=h
 clear h
 simp only [Option.some.injEq,Prod.mk.injEq] at H
 obtain ⟨rfl,rfl⟩:=H
 go_enter Tryd.func51,Tryd.ntmps51
 go_wp2_with (first | ((with_reducible refine gate_dst (N:=2) rfl ?_);refine bxA 2 #[.int .u64 0,.int .u64 0] 40 ?_;intro gb297 hg w2 hbox hb;have n0_:=Am (below_step bA hb);have n1_:=Am (hbox);have n2_:=Am (gwA hg bA);have n3_:=Am (gwA hg bA);clear HB;have HB:=n0_;have BK297:=n1_;have GW297:=n2_;have GE297:=n3_;clear n0_ n1_ n2_ n3_ hb hbox hg;have hcz3_0 : w2.cell? ⟨gb297,0,none⟩ = some (.int .u64 0):=(blk_cell BK297.out 0).trans rfl;have hcz3_1 : w2.cell? ⟨gb297,1,none⟩ = some (.int .u64 0):=(blk_cell BK297.out 1).trans rfl;have hfz3_0:=blk_frozen BK297.out 0;have hfz3_1:=blk_frozen BK297.out 1))
 refine bodyPost_ret (results_cell_row rfl _ _ gb297 40 #[.int .u64 0,.int .u64 a0] (0,0) _ rfl (by (with_reducible repeat (first | refine b1 ?_ _ | refine b2 ?_ | refine b3 ?_ _));refine blk_put (cs:=#[.int .u64 0,.int .u64 0]) ?_ 1 _ rfl;(with_reducible repeat (first | refine b1 ?_ _ | refine b2 ?_ | refine b3 ?_ _));refine blk_put (cs:=#[.int .u64 0,.int .u64 0]) ?_ 0 _ rfl;exact kA) Tryd.underlying40 rfl (by kernel_rfl)) rfl ?_
 exact ⟨by first | rfl | (simp [errW_none,errW_some] <;> rfl) | (simp [*,errW_none,errW_some] <;> rfl),bA⟩

end Go.Proofs.YtbhijfbjdbjpbaaDoor.GSH
namespace Go.Proofs.YtbhijfbjdbjpbaaDoor.Q
open Go.RowKit Go.Proofs.YtbhijfbjdbjpbaaDoor.GSH Go.Proofs.YtbhijfbjdbjpbaaDoorW.PrintWords Go.Proofs.YtbhijfbjdbjpbaaDoorW.PrintLast Go.Proofs.YtbhijfbjdbjpbaaDoorW.PrintMore
theorem rmul {a b : Int} (ha : U a) (hb : U b) : backfillref01_Mul.f a b = some (a * b / 18446744073709551616,a * b % 18446744073709551616):=by
  unfold backfillref01_Mul.f
  have e:=mul_halves a b
  obtain ⟨a0,a1⟩:=ha
  obtain ⟨b0,b1⟩:=hb
  rw [and32 ⟨a0,a1⟩,and32 ⟨b0,b1⟩]
  have p1:=half_bd (x:=a / 4294967296) (y:=b / 4294967296) (by omega) (by omega) (by omega) (by omega)
  have p2:=half_bd (x:=a / 4294967296) (y:=b % 4294967296) (by omega) (by omega) (by omega) (by omega)
  have p3:=half_bd (x:=a % 4294967296) (y:=b / 4294967296) (by omega) (by omega) (by omega) (by omega)
  have p4:=half_bd (x:=a % 4294967296) (y:=b % 4294967296) (by omega) (by omega) (by omega) (by omega)
  generalize (a / 4294967296) * (b / 4294967296) = x1 at *
  generalize (a / 4294967296) * (b % 4294967296) = x2 at *
  generalize (a % 4294967296) * (b / 4294967296) = x3 at *
  generalize (a % 4294967296) * (b % 4294967296) = x4 at *
  generalize a * b = y at *
  rw [w64_in (x:=x4) (by omega) (by omega),w64_in (x:=x2) (by omega) (by omega),w64_in (x:=x3) (by omega) (by omega),w64_in (x:=x1) (by omega) (by omega)]
  rw [and32 (x:=x2) ⟨by omega,by omega⟩,and32 (x:=x3) ⟨by omega,by omega⟩,and32 (x:=x4) ⟨by omega,by omega⟩]
  simp only [w64]
  congr 2 <;> omega
end Go.Proofs.YtbhijfbjdbjpbaaDoor.Q
namespace Go.Proofs.YtbhijfbjdbjpbaaDoor.Q
open Go.RowKit Go.Proofs.YtbhijfbjdbjpbaaDoor.GSH Go.Proofs.YtbhijfbjdbjpbaaDoorW.PrintWords Go.Proofs.YtbhijfbjdbjpbaaDoorW.PrintLast Go.Proofs.YtbhijfbjdbjpbaaDoorW.PrintMore
theorem radd {ah al bh bl : Int} (h1 : U ah) (h2 : U al) (h3 : U bh) (h4 : U bl) : backfillref01_Add.f ah al bh bl = some (addV (V ah al) (V bh bl)):=by
  unfold backfillref01_Add.f backfillref01_greatest.f addV V
  obtain ⟨h1a,h1b⟩:=h1;obtain ⟨h2a,h2b⟩:=h2;obtain ⟨h3a,h3b⟩:=h3;obtain ⟨h4a,h4b⟩:=h4
  simp only [Option.bind_some,w64]
  by_cases hl : (al + bl) % 18446744073709551616 < al
  · rw [if_pos hl]
    by_cases hh : (ah + bh) % 18446744073709551616 ≥ ah
    · rw [if_pos hh]
      by_cases hz : ((ah + bh) % 18446744073709551616 + 1) % 18446744073709551616 > 0
      · rw [if_pos hz,if_pos (by omega)]
        congr 2
        · omega
        · congr 1
          omega
      · rw [if_neg hz,if_neg (by omega)]
    · rw [if_neg hh,if_neg (by omega)]
  · rw [if_neg hl]
    by_cases hh : (ah + bh) % 18446744073709551616 ≥ ah
    · rw [if_pos hh,if_pos (by omega)]
      congr 2
      · omega
      · congr 1
        omega
    · rw [if_neg hh,if_neg (by omega)]
end Go.Proofs.YtbhijfbjdbjpbaaDoor.Q
namespace Go.Proofs.YtbhijfbjdbjpbaaDoor.Q
open Go.RowKit Go.Proofs.YtbhijfbjdbjpbaaDoor.GSH Go.Proofs.YtbhijfbjdbjpbaaDoorW.PrintWords Go.Proofs.YtbhijfbjdbjpbaaDoorW.PrintLast Go.Proofs.YtbhijfbjdbjpbaaDoorW.PrintMore
theorem rtimes {h l y : Int} (hh : U h) (hl : U l) (hy : U y) : backfillref01_Times.f h l y = some (timesV h l y):=by
  unfold backfillref01_Times.f timesV
  rw [rmul hl hy,rmul hh hy]
  simp only [Option.bind_some]
  have m1:=mul_bd hl hy
  by_cases c : h * y / 18446744073709551616 > 0
  · rw [if_pos c,if_pos c];rfl
  · rw [if_neg c,if_neg c,radd ⟨by omega,by omega⟩ (umod' _) (umod' _) ⟨by omega,by omega⟩]
    simp only [Option.bind_some]
    rw [show V (l * y / 18446744073709551616) (l * y % 18446744073709551616) = l * y by unfold V;omega]
end Go.Proofs.YtbhijfbjdbjpbaaDoor.Q
namespace Go.Proofs.YtbhijfbjdbjpbaaDoor.Q
open Go.RowKit Go.Proofs.YtbhijfbjdbjpbaaDoor.GSH Go.Proofs.YtbhijfbjdbjpbaaDoorW.PrintWords Go.Proofs.YtbhijfbjdbjpbaaDoorW.PrintLast Go.Proofs.YtbhijfbjdbjpbaaDoorW.PrintMore
theorem rcmp_j {b : Bool} {ah al bh bl : Int} (k : Nat) (hk : 1 ≤ k) (h2 : U al) (h4 : U bl) (hb : b = decide (V ah al < V bh bl)) : backfillref01_Cmp.j0 k b ah al bh bl = some (cmpV (V ah al) (V bh bl)):=by
  obtain ⟨k,rfl⟩ : ∃ m,k = m + 1:=⟨k - 1,by omega⟩
  simp only [backfillref01_Cmp.j0]
  unfold cmpV
  subst hb
  by_cases c : V ah al < V bh bl
  · rw [if_pos c,if_pos (decide_eq_true c)]
  · rw [if_neg c,if_neg (by simpa using c)]
    unfold V at c ⊢
    obtain ⟨h2a,h2b⟩:=h2;obtain ⟨h4a,h4b⟩:=h4
    by_cases e : ah = bh ∧ al = bl
    · rw [if_pos (by simp [e.1,e.2]),if_pos (by omega)]
    · rw [if_neg (by simpa using e),if_neg (by omega)]
theorem rcmp {ah al bh bl : Int} (k : Nat) (hk : 1 ≤ k) (h2 : U al) (h4 : U bl) : backfillref01_Cmp.f k ah al bh bl = some (cmpV (V ah al) (V bh bl)):=by
  unfold backfillref01_Cmp.f
  have h2':=h2;have h4':=h4
  obtain ⟨h2a,h2b⟩:=h2;obtain ⟨h4a,h4b⟩:=h4
  by_cases c : ah < bh
  · rw [if_pos c]
    exact rcmp_j k hk h2' h4' (by unfold V;symm;rw [decide_eq_true_iff];omega)
  · rw [if_neg c]
    by_cases e : ah = bh
    · rw [if_pos e]
      exact rcmp_j k hk h2' h4' (by unfold V;congr 1;apply propext;omega)
    · rw [if_neg e]
      exact rcmp_j k hk h2' h4' (by unfold V;symm;rw [decide_eq_false_iff_not];omega)
end Go.Proofs.YtbhijfbjdbjpbaaDoor.Q
namespace Go.Proofs.YtbhijfbjdbjpbaaDoor.GSH
open Go.RowKit Go.Proofs.YtbhijfbjdbjpbaaDoorW.PrintWords Go.Proofs.YtbhijfbjdbjpbaaDoorW.PrintLast Go.Proofs.YtbhijfbjdbjpbaaDoorW.PrintMore
attribute [local go_sem] max2_int min2_int max_two min_two max_three min_three max_four min_four   -- for this text's walks alone
set_option linter.unusedVariables false
set_option linter.unusedSimpArgs false
def backfillref11_G.f (a0_0 : Int) (a0_1 : Int) (a0_2 : Int) (a0_3 : Int) (a0_4 : Int) (a0_5 : Int) (a0_6 : Int) (a0_7 : Int) : Option (Int):=(backfillref11_K.f a0_0 a0_1 a0_2 a0_3 a0_4 a0_5 a0_6 a0_7).bind fun t299 => ((backfillref11_M.f a0_0 a0_1 a0_2 a0_3 a0_4 a0_5 a0_6 a0_7).bind fun t300 => ((backfillref11_up.f (wrap64 (t300 * 81)) 2147483648).bind fun t301 => (some (wrap64 (t299 * (wrap64 (1 + t301)))))))
def backfillref11_G.T1 : Bool × List (List Nat × List Nat):=(true,[([],[]),([0],[0]),([],[]),([2,1],[2]),([3],[3]),([4,3],[4]),([5],[5]),([1,6],[1,6]),([7,5,0,1,2,3,4,5,6,7],[7])])
def backfillref11_G.B1 : List Nat:=[0,1,0,7,15,31,63,127,255]
theorem backfillref11_G.tab1 : rtab .any (opsOf Tryd.f52 1) = backfillref11_G.T1:=by kernel_rfl
theorem backfillref11_G.bits1 : waitsOk backfillref11_G.T1.2 backfillref11_G.B1 = true:=by kernel_rfl
set_option maxHeartbeats 8000000 in
set_option maxRecDepth 100000 in
theorem backfillref11_G.calls (a0_0 : Int) (a0_1 : Int) (a0_2 : Int) (a0_3 : Int) (a0_4 : Int) (a0_5 : Int) (a0_6 : Int) (a0_7 : Int) (r : Int) (w : World) (h : backfillref11_G.f a0_0 a0_1 a0_2 a0_3 a0_4 a0_5 a0_6 a0_7 = some r) :
  Calls Tryd.prog 52 #[.agg #[.int .i64 a0_0,.int .i64 a0_1,.int .i64 a0_2,.int .i64 a0_3,.int .i64 a0_4,.int .i64 a0_5,.int .i64 a0_6,.int .i64 a0_7]] w fun e w' => e = .returned (.int .i64 r) ∧ Below w.heap.size w w':=by
 have hu23:=Tryd.underlying23
 have HB:=Am (Below.refl w.heap.size w)
 have H : ((backfillref11_K.f a0_0 a0_1 a0_2 a0_3 a0_4 a0_5 a0_6 a0_7).bind fun t299 => ((backfillref11_M.f a0_0 a0_1 a0_2 a0_3 a0_4 a0_5 a0_6 a0_7).bind fun t300 => ((backfillref11_up.f (wrap64 (t300 * 81)) 2147483648).bind fun t301 => (some (wrap64 (t299 * (wrap64 (1 + t301)))))))) = some r:=h
 clear h;replace H:=Option.bind_eq_some_iff.mp H;obtain ⟨t299,A20,H⟩:=H;replace H : ((backfillref11_M.f a0_0 a0_1 a0_2 a0_3 a0_4 a0_5 a0_6 a0_7).bind fun t300 => ((backfillref11_up.f (wrap64 (t300 * 81)) 2147483648).bind fun t301 => (some (wrap64 (t299 * (wrap64 (1 + t301))))))) = some r:=H;have A2:=Aside0.mk A20;clear A20;replace H:=Option.bind_eq_some_iff.mp H;obtain ⟨t300,A30,H⟩:=H;replace H : ((backfillref11_up.f (wrap64 (t300 * 81)) 2147483648).bind fun t301 => (some (wrap64 (t299 * (wrap64 (1 + t301)))))) = some r:=H;have A3:=Aside0.mk A30;clear A30;replace H:=Option.bind_eq_some_iff.mp H;obtain ⟨t301,A40,H⟩:=H;replace H : (some (wrap64 (t299 * (wrap64 (1 + t301))))) = some r:=H;have A4:=Aside0.mk A40;clear A40
 obtain rfl:=Option.some.inj H
 go_enter Tryd.func52,Tryd.ntmps52
 try go_wp2_with (first | ((with_reducible refine gate_dst (N:=1) rfl ?_);refine bxA 1 #[.int .i64 a0_0,.int .i64 a0_1,.int .i64 a0_2,.int .i64 a0_3,.int .i64 a0_4,.int .i64 a0_5,.int .i64 a0_6,.int .i64 a0_7] 23 ?_;intro gb298 hg w5 hbox hb;have n0_:=Am (below_step bA hb);have n1_:=Am (hbox);have n2_:=Am (gwA hg bA);have n3_:=Am (gwA hg bA);clear HB;have HB:=n0_;have BK298:=n1_;have GW298:=n2_;have GE298:=n3_;clear n0_ n1_ n2_ n3_ hb hbox hg))
 have n0_:=Am (blk_drew BK298.out);have n1_:=Am (below_drew1 HB.out);clear BK298 HB;have BK298:=n0_;have HB:=n1_;clear n0_ n1_
 refine start_ (n:=9) (S:=fun w' => w'.cell? ⟨gb298,0,none⟩ = some (.int .i64 a0_0) ∧ w'.cell? ⟨gb298,1,none⟩ = some (.int .i64 a0_1) ∧ w'.cell? ⟨gb298,2,none⟩ = some (.int .i64 a0_2) ∧ w'.cell? ⟨gb298,3,none⟩ = some (.int .i64 a0_3) ∧ w'.cell? ⟨gb298,4,none⟩ = some (.int .i64 a0_4) ∧ w'.cell? ⟨gb298,5,none⟩ = some (.int .i64 a0_5) ∧ w'.cell? ⟨gb298,6,none⟩ = some (.int .i64 a0_6) ∧ w'.cell? ⟨gb298,7,none⟩ = some (.int .i64 a0_7)) (ds:=[]) #[nn,nn,nn,nn,nn,nn,nn,nn,nn] (by kernel_rfl) rfl rfl ⟨(blk_cell BK298.out 0).trans rfl,(blk_cell BK298.out 1).trans rfl,(blk_cell BK298.out 2).trans rfl,(blk_cell BK298.out 3).trans rfl,(blk_cell BK298.out 4).trans rfl,(blk_cell BK298.out 5).trans rfl,(blk_cell BK298.out 6).trans rfl,(blk_cell BK298.out 7).trans rfl⟩ (fun hHeld => ?_);refine with_tabW backfillref11_G.tab1 backfillref11_G.bits1 (fun HT_ HW_ => ?_)
 generalize w5.drew = w6 at BK298 HB hHeld ⊢
 refine take_ (i:=0) (N:=some 3) (v:=?_) (a':=?_) #[yy,nn,nn,nn,nn,nn,nn,nn,nn] rfl rfl (take_ofW HT_.out HW_.out (by kernel_rfl)) (fun _ _ _ h => h) (Or.inl ⟨by rfl,?_⟩) hHeld ?_ ?_
 rotate_left
 ·rintro w' ⟨s0,s1,s2,s3,s4,s5,s6,s7⟩
  go_simp;with_reducible rfl
 rotate_left
 ·simp only [NR]
  rfl
 refine take_ (i:=2) (N:=some 5) (v:=?_) (a':=?_) #[yy,nn,yy,nn,nn,nn,nn,nn,nn] rfl rfl (take_ofW HT_.out HW_.out (by kernel_rfl)) (fun _ _ _ h => h) (Or.inl ⟨by rfl,?_⟩) hHeld ?_ ?_
 rotate_left
 ·rintro w' ⟨s0,s1,s2,s3,s4,s5,s6,s7⟩
  go_simp;with_reducible rfl
 rotate_left
 ·simp only [NR]
  rfl
 refine one_ (i:=1) (N:=some 4) #[yy,yy,yy,nn,nn,nn,nn,nn,nn] rfl rfl (one_of HT_.out (by kernel_rfl)) (by decide) (fun K hK => ?_)
 refine goes_ Tryd.func50 (by kernel_rfl) rfl #[.agg #[.int .i64 a0_0,.int .i64 a0_1,.int .i64 a0_2,.int .i64 a0_3,.int .i64 a0_4,.int .i64 a0_5,.int .i64 a0_6,.int .i64 a0_7]] (by rfl) rfl rfl aA ?_
 with_reducible refine (backfillref11_K.calls a0_0 a0_1 a0_2 a0_3 a0_4 a0_5 a0_6 a0_7 t299 _ A2.out).mono ?_
 rintro e w7 ⟨rfl,hb⟩
 refine ⟨_,rfl,?_⟩;have n0_:=Am (blk_below (g:=gb298) kA hb);have n1_:=Am (below_step bA hb);clear BK298 HB;have BK298:=n0_;have HB:=n1_;clear n0_ n1_;(try clear hb)
 refine hK.out _ _ ⟨(blk_cell BK298.out 0).trans rfl,(blk_cell BK298.out 1).trans rfl,(blk_cell BK298.out 2).trans rfl,(blk_cell BK298.out 3).trans rfl,(blk_cell BK298.out 4).trans rfl,(blk_cell BK298.out 5).trans rfl,(blk_cell BK298.out 6).trans rfl,(blk_cell BK298.out 7).trans rfl⟩ (fun hHeld => ?_)
 clear hK K
 refine norm_ (a':=?_) ?_ ?_
 rotate_left
 ·show Act.put _ (some 4) _ = _
  simp only [NR]
  rfl
 refine one_ (i:=3) (N:=some 6) #[yy,yy,yy,yy,nn,nn,nn,nn,nn] rfl rfl (one_of HT_.out (by kernel_rfl)) (by decide) (fun K hK => ?_)
 refine goes_ Tryd.func28 (by kernel_rfl) rfl #[.agg #[.int .i64 a0_0,.int .i64 a0_1,.int .i64 a0_2,.int .i64 a0_3,.int .i64 a0_4,.int .i64 a0_5,.int .i64 a0_6,.int .i64 a0_7]] (by rfl) rfl rfl aA ?_
 with_reducible refine (backfillref11_M.calls a0_0 a0_1 a0_2 a0_3 a0_4 a0_5 a0_6 a0_7 t300 _ A3.out).mono ?_
 rintro e w8 ⟨rfl,hb⟩
 refine ⟨_,rfl,?_⟩;have n0_:=Am (blk_below (g:=gb298) kA hb);have n1_:=Am (below_step bA hb);clear BK298 HB;have BK298:=n0_;have HB:=n1_;clear n0_ n1_;(try clear hb)
 refine hK.out _ _ ⟨(blk_cell BK298.out 0).trans rfl,(blk_cell BK298.out 1).trans rfl,(blk_cell BK298.out 2).trans rfl,(blk_cell BK298.out 3).trans rfl,(blk_cell BK298.out 4).trans rfl,(blk_cell BK298.out 5).trans rfl,(blk_cell BK298.out 6).trans rfl,(blk_cell BK298.out 7).trans rfl⟩ (fun hHeld => ?_)
 clear hK K
 refine norm_ (a':=?_) ?_ ?_
 rotate_left
 ·show Act.put _ (some 6) _ = _
  simp only [NR]
  rfl
 refine pure_ (i:=4) (N:=some 7) (v:=?_) (a':=?_) #[yy,yy,yy,yy,yy,nn,nn,nn,nn] rfl rfl (any_of HT_.out (by kernel_rfl)) (fun _ _ _ h => h) (Or.inl ⟨by rfl,?_⟩) ?_ ?_
 rotate_left
 ·intro w'
  go_simp;with_reducible rfl
 rotate_left
 ·simp only [NR]
  rfl
 refine one_ (i:=5) (N:=some 8) #[yy,yy,yy,yy,yy,yy,nn,nn,nn] rfl rfl (one_of HT_.out (by kernel_rfl)) (by decide) (fun K hK => ?_)
 refine goes_ Tryd.func75 (by kernel_rfl) rfl #[.int .i64 (wrap64 (t300 * 81)),.int .i64 2147483648] (by rfl) rfl rfl aA ?_
 with_reducible refine (backfillref11_up.calls (wrap64 (t300 * 81)) 2147483648 t301 _ A4.out).mono ?_
 rintro e w' ⟨rfl,⟨nd,rfl⟩⟩
 refine ⟨_,rfl,?_⟩
 refine hK.out _ _ ⟨(blk_cell BK298.out 0).trans rfl,(blk_cell BK298.out 1).trans rfl,(blk_cell BK298.out 2).trans rfl,(blk_cell BK298.out 3).trans rfl,(blk_cell BK298.out 4).trans rfl,(blk_cell BK298.out 5).trans rfl,(blk_cell BK298.out 6).trans rfl,(blk_cell BK298.out 7).trans rfl⟩ (fun hHeld => ?_)
 clear hK K
 refine norm_ (a':=?_) ?_ ?_
 rotate_left
 ·show Act.put _ (some 8) _ = _
  simp only [NR]
  rfl
 refine pure_ (i:=6) (N:=some 9) (v:=?_) (a':=?_) #[yy,yy,yy,yy,yy,yy,yy,nn,nn] rfl rfl (any_of HT_.out (by kernel_rfl)) (fun _ _ _ h => h) (Or.inl ⟨by rfl,?_⟩) ?_ ?_
 rotate_left
 ·intro w'
  go_simp;with_reducible rfl
 rotate_left
 ·simp only [NR]
  rfl
 refine pure_ (i:=7) (N:=some 10) (v:=?_) (a':=?_) #[yy,yy,yy,yy,yy,yy,yy,yy,nn] rfl rfl (any_of HT_.out (by kernel_rfl)) (fun _ _ _ h => h) (Or.inl ⟨by rfl,?_⟩) ?_ ?_
 rotate_left
 ·intro w'
  go_simp;with_reducible rfl
 rotate_left
 ·simp only [NR]
  rfl
 refine pure_ (i:=8) (N:=some 2) (v:=?_) (a':=?_) #[yy,yy,yy,yy,yy,yy,yy,yy,yy] rfl rfl (any_of HT_.out (by kernel_rfl)) (fun _ _ _ h => h) (Or.inl ⟨by rfl,?_⟩) ?_ ?_
 rotate_left
 ·intro w'
  go_simp;with_reducible rfl
 rotate_left
 ·simp only [NR]
  rfl
 refine done_ (done_of HT_.out (by kernel_rfl)) ?_
 try go_wp2
 go_ret
 exact ⟨by first | rfl | (simp [errW_none,errW_some] <;> rfl) | (simp [*,errW_none,errW_some] <;> rfl),bA⟩

def backfillref11_off.f (a0_0 : Int) (a0_1 : Int) (a0_2 : Int) (a0_3 : Int) (a0_4 : Int) (a0_5 : Int) (a0_6 : Int) (a0_7 : Int) : Option (Int × Int × Int × Int):=if a0_4 = 0 then ((backfillref01_Of.f 1).bind fun bt305 => (some (0,0,bt305.1,bt305.2))) else ((backfillref11_C.f a0_0 a0_1 a0_2 a0_3 a0_4 a0_5 a0_6 a0_7).bind fun t307 => ((backfillref01_Mul.f (IntKind.u64.wrap (t307)) 4294967296).bind fun bt308 => ((backfillref11_G.f a0_0 a0_1 a0_2 a0_3 a0_4 a0_5 a0_6 a0_7).bind fun t311 => ((backfillref01_Mul.f 258048 (IntKind.u64.wrap (t311))).bind fun bt312 => ((backfillref11_C.f a0_0 a0_1 a0_2 a0_3 a0_4 a0_5 a0_6 a0_7).bind fun t315 => ((backfillref01_Of.f (IntKind.u64.wrap (wrap64 (2 * t315)))).bind fun bt316 => ((backfillref01_Add.f bt312.1 bt312.2 bt316.1 bt316.2).bind fun bt318 => ((backfillref01_Times.f bt318.1 bt318.2.1 (IntKind.u64.wrap (a0_4))).bind fun bt321 => ((backfillref01_Add.f bt321.1 bt321.2.1 bt308.1 bt308.2).bind fun bt324 => (some (bt324.1,bt324.2.1,bt308.1,bt308.2)))))))))))
def backfillref11_off.T5 : Bool × List (List Nat × List Nat):=(true,[([],[]),([],[]),([1],[1]),([2],[2]),([3],[3]),([4,2],[4]),([0,5,5],[0,5]),([6],[6]),([7],[7]),([7],[7]),([8,6,0,1,2,3,4,5,6,7,8],[8])])
def backfillref11_off.B5 : List Nat:=[0,0,2,6,14,30,63,127,255,255,511]
theorem backfillref11_off.tab5 : rtab .any (opsOf Tryd.f29 5) = backfillref11_off.T5:=by kernel_rfl
theorem backfillref11_off.bits5 : waitsOk backfillref11_off.T5.2 backfillref11_off.B5 = true:=by kernel_rfl
set_option maxHeartbeats 8000000 in
set_option maxRecDepth 100000 in
theorem backfillref11_off.calls (a0_0 : Int) (a0_1 : Int) (a0_2 : Int) (a0_3 : Int) (a0_4 : Int) (a0_5 : Int) (a0_6 : Int) (a0_7 : Int) (r1 : Int) (r2 : Int) (r3 : Int) (r4 : Int) (w : World) (h : backfillref11_off.f a0_0 a0_1 a0_2 a0_3 a0_4 a0_5 a0_6 a0_7 = some (r1,r2,r3,r4)) :
  Calls Tryd.prog 29 #[.agg #[.int .i64 a0_0,.int .i64 a0_1,.int .i64 a0_2,.int .i64 a0_3,.int .i64 a0_4,.int .i64 a0_5,.int .i64 a0_6,.int .i64 a0_7]] w fun e w' => e = .returned (.tuple #[.agg #[.int .u64 r1,.int .u64 r2],.agg #[.int .u64 r3,.int .u64 r4]]) ∧ Below w.heap.size w w':=by
 have hu23:=Tryd.underlying23
 have hu40:=Tryd.underlying40
 have HB:=Am (Below.refl w.heap.size w)
 have H : (if a0_4 = 0 then ((backfillref01_Of.f 1).bind fun bt305 => (some (0,0,bt305.1,bt305.2))) else ((backfillref11_C.f a0_0 a0_1 a0_2 a0_3 a0_4 a0_5 a0_6 a0_7).bind fun t307 => ((backfillref01_Mul.f (IntKind.u64.wrap (t307)) 4294967296).bind fun bt308 => ((backfillref11_G.f a0_0 a0_1 a0_2 a0_3 a0_4 a0_5 a0_6 a0_7).bind fun t311 => ((backfillref01_Mul.f 258048 (IntKind.u64.wrap (t311))).bind fun bt312 => ((backfillref11_C.f a0_0 a0_1 a0_2 a0_3 a0_4 a0_5 a0_6 a0_7).bind fun t315 => ((backfillref01_Of.f (IntKind.u64.wrap (wrap64 (2 * t315)))).bind fun bt316 => ((backfillref01_Add.f bt312.1 bt312.2 bt316.1 bt316.2).bind fun bt318 => ((backfillref01_Times.f bt318.1 bt318.2.1 (IntKind.u64.wrap (a0_4))).bind fun bt321 => ((backfillref01_Add.f bt321.1 bt321.2.1 bt308.1 bt308.2).bind fun bt324 => (some (bt324.1,bt324.2.1,bt308.1,bt308.2)))))))))))) = some (r1,r2,r3,r4):=h
 clear h
 by_cases c2 : a0_4 = 0
 ·rw [if_pos c2] at H
  have c2b0 : (a0_4 == 0) = true:=beq_iff_eq.mpr c2
  have c2b1 : (a0_4 != 0) = false:=bne_eq_false_iff_eq.mpr c2
  clear c2;replace H:=Option.bind_eq_some_iff.mp H;obtain ⟨⟨t305,t306⟩,A30,H⟩:=H;replace H : (some (0,0,t305,t306)) = some (r1,r2,r3,r4):=H;have A3:=Aside0.mk A30;clear A30
  simp only [Option.some.injEq,Prod.mk.injEq] at H
  obtain ⟨rfl,rfl,rfl,rfl⟩:=H
  go_enter Tryd.func29,Tryd.ntmps29
  go_wp2_with (first | ((with_reducible refine gate_dst (N:=1) rfl ?_);refine bxA 1 #[.int .i64 a0_0,.int .i64 a0_1,.int .i64 a0_2,.int .i64 a0_3,.int .i64 a0_4,.int .i64 a0_5,.int .i64 a0_6,.int .i64 a0_7] 23 ?_;intro gb302 hg w4 hbox hb;have n0_:=Am (below_step bA hb);have n1_:=Am (hbox);have n2_:=Am (gwA hg bA);have n3_:=Am (gwA hg bA);clear HB;have HB:=n0_;have BK302:=n1_;have GW302:=n2_;have GE302:=n3_;clear n0_ n1_ n2_ n3_ hb hbox hg) | ((with_reducible refine gate_dst (N:=2) rfl ?_);refine bxA 2 #[.int .u64 0,.int .u64 0] 40 ?_;intro gb303 hg w5 hbox hb;have n0_:=Am (blk_below (g:=gb302) kA hb);have n1_:=Am (below_step bA hb);have n2_:=Am (hbox);have n3_:=Am (gwA hg bA);have n4_:=Am (gwA hg bA);have n5_:=Am (neA (g:=gb302) hg kA);have n6_:=Am (neB (g:=gb302) hg kA);clear BK302 HB;have BK302:=n0_;have HB:=n1_;have BK303:=n2_;have GW303:=n3_;have GE303:=n4_;have NB302_303:=n5_;have NB303_302:=n6_;clear n0_ n1_ n2_ n3_ n4_ n5_ n6_ hb hbox hg) | ((with_reducible refine gate_dst (N:=3) rfl ?_);refine bxA 3 #[.int .u64 0,.int .u64 0] 40 ?_;intro gb304 hg w6 hbox hb;have n0_:=Am (blk_below (g:=gb302) kA hb);have n1_:=Am (blk_below (g:=gb303) kA hb);have n2_:=Am (below_step bA hb);have n3_:=Am (hbox);have n4_:=Am (gwA hg bA);have n5_:=Am (gwA hg bA);have n6_:=Am (neA (g:=gb302) hg kA);have n7_:=Am (neB (g:=gb302) hg kA);have n8_:=Am (neA (g:=gb303) hg kA);have n9_:=Am (neB (g:=gb303) hg kA);clear BK302 BK303 HB;have BK302:=n0_;have BK303:=n1_;have HB:=n2_;have BK304:=n3_;have GW304:=n4_;have GE304:=n5_;have NB302_304:=n6_;have NB304_302:=n7_;have NB303_304:=n8_;have NB304_303:=n9_;clear n0_ n1_ n2_ n3_ n4_ n5_ n6_ n7_ n8_ n9_ hb hbox hg;have hnb7:=NB302_303.out;have hnc7:=NB303_302.out;have hnb8:=NB302_304.out;have hnc8:=NB304_302.out;have hcz9_0 : w6.cell? ⟨gb302,0,none⟩ = some (.int .i64 a0_0):=(blk_cell BK302.out 0).trans rfl;have hcz9_1 : w6.cell? ⟨gb302,1,none⟩ = some (.int .i64 a0_1):=(blk_cell BK302.out 1).trans rfl;have hcz9_2 : w6.cell? ⟨gb302,2,none⟩ = some (.int .i64 a0_2):=(blk_cell BK302.out 2).trans rfl;have hcz9_3 : w6.cell? ⟨gb302,3,none⟩ = some (.int .i64 a0_3):=(blk_cell BK302.out 3).trans rfl;have hcz9_4 : w6.cell? ⟨gb302,4,none⟩ = some (.int .i64 a0_4):=(blk_cell BK302.out 4).trans rfl;have hcz9_5 : w6.cell? ⟨gb302,5,none⟩ = some (.int .i64 a0_5):=(blk_cell BK302.out 5).trans rfl;have hcz9_6 : w6.cell? ⟨gb302,6,none⟩ = some (.int .i64 a0_6):=(blk_cell BK302.out 6).trans rfl;have hcz9_7 : w6.cell? ⟨gb302,7,none⟩ = some (.int .i64 a0_7):=(blk_cell BK302.out 7).trans rfl;have hfz9_0:=blk_frozen BK302.out 0;have hfz9_1:=blk_frozen BK302.out 1;have hfz9_2:=blk_frozen BK302.out 2;have hfz9_3:=blk_frozen BK302.out 3;have hfz9_4:=blk_frozen BK302.out 4;have hfz9_5:=blk_frozen BK302.out 5;have hfz9_6:=blk_frozen BK302.out 6;have hfz9_7:=blk_frozen BK302.out 7) | ((with_reducible refine gate_callee (f:=51) rfl ?_);refine goesL_ (some 10) rfl rfl Tryd.func51 (by kernel_rfl) rfl #[.int .u64 1] rfl aA ?_;(with_reducible refine (backfillref01_Of.calls 1 t305 t306 _ A3.out).mono ?_);rintro e w10 ⟨rfl,hb⟩;refine ⟨_,rfl,?_⟩;have n0_:=Am (blk_below (g:=gb302) kA hb);have n1_:=Am (blk_below (g:=gb303) kA hb);have n2_:=Am (blk_below (g:=gb304) kA hb);have n3_:=Am (below_step bA hb);clear BK302 BK303 BK304 HB;have BK302:=n0_;have BK303:=n1_;have BK304:=n2_;have HB:=n3_;clear n0_ n1_ n2_ n3_;(try clear hb);have hnb11:=NB303_304.out;have hnc11:=NB304_303.out;have hcz12_0 : w10.cell? ⟨gb303,0,none⟩ = some (.int .u64 0):=(blk_cell BK303.out 0).trans rfl;have hcz12_1 : w10.cell? ⟨gb303,1,none⟩ = some (.int .u64 0):=(blk_cell BK303.out 1).trans rfl;have hfz12_0:=blk_frozen BK303.out 0;have hfz12_1:=blk_frozen BK303.out 1;have hcz13_0 : w10.cell? ⟨gb304,0,none⟩ = some (.int .u64 0):=(blk_cell BK304.out 0).trans rfl;have hcz13_1 : w10.cell? ⟨gb304,1,none⟩ = some (.int .u64 0):=(blk_cell BK304.out 1).trans rfl;have hfz13_0:=blk_frozen BK304.out 0;have hfz13_1:=blk_frozen BK304.out 1))
  refine bodyPost_ret (results_cc rfl _ _ gb303 gb304 40 40 #[.int .u64 0,.int .u64 0] #[.int .u64 t305,.int .u64 t306] (0,0) (0,0) _ _ rfl (by (with_reducible repeat (first | refine b1 ?_ _ | refine b2 ?_ | refine b3 ?_ _));refine blk_far ?_ NB303_304.out _;(with_reducible repeat (first | refine b1 ?_ _ | refine b2 ?_ | refine b3 ?_ _));refine blk_far ?_ NB303_304.out _;(with_reducible repeat (first | refine b1 ?_ _ | refine b2 ?_ | refine b3 ?_ _));refine blk_put (cs:=#[.int .u64 0,.int .u64 0]) ?_ 1 _ rfl;(with_reducible repeat (first | refine b1 ?_ _ | refine b2 ?_ | refine b3 ?_ _));refine blk_put (cs:=#[.int .u64 0,.int .u64 0]) ?_ 0 _ rfl;exact kA) Tryd.underlying40 rfl (by kernel_rfl) rfl (by (with_reducible repeat (first | refine b1 ?_ _ | refine b2 ?_ | refine b3 ?_ _));refine blk_put (cs:=#[.int .u64 t305,.int .u64 0]) ?_ 1 _ rfl;(with_reducible repeat (first | refine b1 ?_ _ | refine b2 ?_ | refine b3 ?_ _));refine blk_put (cs:=#[.int .u64 0,.int .u64 0]) ?_ 0 _ rfl;(with_reducible repeat (first | refine b1 ?_ _ | refine b2 ?_ | refine b3 ?_ _));refine blk_far ?_ NB304_303.out _;(with_reducible repeat (first | refine b1 ?_ _ | refine b2 ?_ | refine b3 ?_ _));refine blk_far ?_ NB304_303.out _;exact kA) Tryd.underlying40 rfl (by kernel_rfl)) rfl ?_
  exact ⟨by first | rfl | (simp [errW_none,errW_some] <;> rfl) | (simp [*,errW_none,errW_some] <;> rfl),bA⟩
 ·rw [if_neg c2] at H
  have c2b0 : (a0_4 == 0) = false:=beq_eq_false_iff_ne.mpr c2
  have c2b1 : (a0_4 != 0) = true:=bne_iff_ne.mpr c2
  replace H:=Option.bind_eq_some_iff.mp H;obtain ⟨t307,A140,H⟩:=H;replace H : ((backfillref01_Mul.f (IntKind.u64.wrap (t307)) 4294967296).bind fun bt308 => ((backfillref11_G.f a0_0 a0_1 a0_2 a0_3 a0_4 a0_5 a0_6 a0_7).bind fun t311 => ((backfillref01_Mul.f 258048 (IntKind.u64.wrap (t311))).bind fun bt312 => ((backfillref11_C.f a0_0 a0_1 a0_2 a0_3 a0_4 a0_5 a0_6 a0_7).bind fun t315 => ((backfillref01_Of.f (IntKind.u64.wrap (wrap64 (2 * t315)))).bind fun bt316 => ((backfillref01_Add.f bt312.1 bt312.2 bt316.1 bt316.2).bind fun bt318 => ((backfillref01_Times.f bt318.1 bt318.2.1 (IntKind.u64.wrap (a0_4))).bind fun bt321 => ((backfillref01_Add.f bt321.1 bt321.2.1 bt308.1 bt308.2).bind fun bt324 => (some (bt324.1,bt324.2.1,bt308.1,bt308.2)))))))))) = some (r1,r2,r3,r4):=H;have A14:=Aside0.mk A140;clear A140;replace H:=Option.bind_eq_some_iff.mp H;obtain ⟨⟨t308,t309⟩,A150,H⟩:=H;replace H : ((backfillref11_G.f a0_0 a0_1 a0_2 a0_3 a0_4 a0_5 a0_6 a0_7).bind fun t311 => ((backfillref01_Mul.f 258048 (IntKind.u64.wrap (t311))).bind fun bt312 => ((backfillref11_C.f a0_0 a0_1 a0_2 a0_3 a0_4 a0_5 a0_6 a0_7).bind fun t315 => ((backfillref01_Of.f (IntKind.u64.wrap (wrap64 (2 * t315)))).bind fun bt316 => ((backfillref01_Add.f bt312.1 bt312.2 bt316.1 bt316.2).bind fun bt318 => ((backfillref01_Times.f bt318.1 bt318.2.1 (IntKind.u64.wrap (a0_4))).bind fun bt321 => ((backfillref01_Add.f bt321.1 bt321.2.1 t308 t309).bind fun bt324 => (some (bt324.1,bt324.2.1,t308,t309))))))))) = some (r1,r2,r3,r4):=H;have A15:=Aside0.mk A150;clear A150;replace H:=Option.bind_eq_some_iff.mp H;obtain ⟨t311,A160,H⟩:=H;replace H : ((backfillref01_Mul.f 258048 (IntKind.u64.wrap (t311))).bind fun bt312 => ((backfillref11_C.f a0_0 a0_1 a0_2 a0_3 a0_4 a0_5 a0_6 a0_7).bind fun t315 => ((backfillref01_Of.f (IntKind.u64.wrap (wrap64 (2 * t315)))).bind fun bt316 => ((backfillref01_Add.f bt312.1 bt312.2 bt316.1 bt316.2).bind fun bt318 => ((backfillref01_Times.f bt318.1 bt318.2.1 (IntKind.u64.wrap (a0_4))).bind fun bt321 => ((backfillref01_Add.f bt321.1 bt321.2.1 t308 t309).bind fun bt324 => (some (bt324.1,bt324.2.1,t308,t309)))))))) = some (r1,r2,r3,r4):=H;have A16:=Aside0.mk A160;clear A160;replace H:=Option.bind_eq_some_iff.mp H;obtain ⟨⟨t312,t313⟩,A170,H⟩:=H;replace H : ((backfillref11_C.f a0_0 a0_1 a0_2 a0_3 a0_4 a0_5 a0_6 a0_7).bind fun t315 => ((backfillref01_Of.f (IntKind.u64.wrap (wrap64 (2 * t315)))).bind fun bt316 => ((backfillref01_Add.f t312 t313 bt316.1 bt316.2).bind fun bt318 => ((backfillref01_Times.f bt318.1 bt318.2.1 (IntKind.u64.wrap (a0_4))).bind fun bt321 => ((backfillref01_Add.f bt321.1 bt321.2.1 t308 t309).bind fun bt324 => (some (bt324.1,bt324.2.1,t308,t309))))))) = some (r1,r2,r3,r4):=H;have A17:=Aside0.mk A170;clear A170;replace H:=Option.bind_eq_some_iff.mp H;obtain ⟨t315,A180,H⟩:=H;replace H : ((backfillref01_Of.f (IntKind.u64.wrap (wrap64 (2 * t315)))).bind fun bt316 => ((backfillref01_Add.f t312 t313 bt316.1 bt316.2).bind fun bt318 => ((backfillref01_Times.f bt318.1 bt318.2.1 (IntKind.u64.wrap (a0_4))).bind fun bt321 => ((backfillref01_Add.f bt321.1 bt321.2.1 t308 t309).bind fun bt324 => (some (bt324.1,bt324.2.1,t308,t309)))))) = some (r1,r2,r3,r4):=H;have A18:=Aside0.mk A180;clear A180;replace H:=Option.bind_eq_some_iff.mp H;obtain ⟨⟨t316,t317⟩,A190,H⟩:=H;replace H : ((backfillref01_Add.f t312 t313 t316 t317).bind fun bt318 => ((backfillref01_Times.f bt318.1 bt318.2.1 (IntKind.u64.wrap (a0_4))).bind fun bt321 => ((backfillref01_Add.f bt321.1 bt321.2.1 t308 t309).bind fun bt324 => (some (bt324.1,bt324.2.1,t308,t309))))) = some (r1,r2,r3,r4):=H;have A19:=Aside0.mk A190;clear A190;replace H:=Option.bind_eq_some_iff.mp H;obtain ⟨⟨t318,t319,t320⟩,A200,H⟩:=H;replace H : ((backfillref01_Times.f t318 t319 (IntKind.u64.wrap (a0_4))).bind fun bt321 => ((backfillref01_Add.f bt321.1 bt321.2.1 t308 t309).bind fun bt324 => (some (bt324.1,bt324.2.1,t308,t309)))) = some (r1,r2,r3,r4):=H
  have A20:=Aside0.mk A200;clear A200;replace H:=Option.bind_eq_some_iff.mp H;obtain ⟨⟨t321,t322,t323⟩,A210,H⟩:=H;replace H : ((backfillref01_Add.f t321 t322 t308 t309).bind fun bt324 => (some (bt324.1,bt324.2.1,t308,t309))) = some (r1,r2,r3,r4):=H;have A21:=Aside0.mk A210;clear A210;replace H:=Option.bind_eq_some_iff.mp H;obtain ⟨⟨t324,t325,t326⟩,A220,H⟩:=H;replace H : (some (t324,t325,t308,t309)) = some (r1,r2,r3,r4):=H;have A22:=Aside0.mk A220;clear A220
  simp only [Option.some.injEq,Prod.mk.injEq] at H
  obtain ⟨rfl,rfl,rfl,rfl⟩:=H
  go_enter Tryd.func29,Tryd.ntmps29
  try go_wp2_with (first | ((with_reducible refine gate_dst (N:=1) rfl ?_);refine bxA 1 #[.int .i64 a0_0,.int .i64 a0_1,.int .i64 a0_2,.int .i64 a0_3,.int .i64 a0_4,.int .i64 a0_5,.int .i64 a0_6,.int .i64 a0_7] 23 ?_;intro gb302 hg w23 hbox hb;have n0_:=Am (below_step bA hb);have n1_:=Am (hbox);have n2_:=Am (gwA hg bA);have n3_:=Am (gwA hg bA);clear HB;have HB:=n0_;have BK302:=n1_;have GW302:=n2_;have GE302:=n3_;clear n0_ n1_ n2_ n3_ hb hbox hg) | ((with_reducible refine gate_dst (N:=2) rfl ?_);refine bxA 2 #[.int .u64 0,.int .u64 0] 40 ?_;intro gb303 hg w24 hbox hb;have n0_:=Am (blk_below (g:=gb302) kA hb);have n1_:=Am (below_step bA hb);have n2_:=Am (hbox);have n3_:=Am (gwA hg bA);have n4_:=Am (gwA hg bA);have n5_:=Am (neA (g:=gb302) hg kA);have n6_:=Am (neB (g:=gb302) hg kA);clear BK302 HB;have BK302:=n0_;have HB:=n1_;have BK303:=n2_;have GW303:=n3_;have GE303:=n4_;have NB302_303:=n5_;have NB303_302:=n6_;clear n0_ n1_ n2_ n3_ n4_ n5_ n6_ hb hbox hg) | ((with_reducible refine gate_dst (N:=3) rfl ?_);refine bxA 3 #[.int .u64 0,.int .u64 0] 40 ?_;intro gb304 hg w25 hbox hb;have n0_:=Am (blk_below (g:=gb302) kA hb);have n1_:=Am (blk_below (g:=gb303) kA hb);have n2_:=Am (below_step bA hb);have n3_:=Am (hbox);have n4_:=Am (gwA hg bA);have n5_:=Am (gwA hg bA);have n6_:=Am (neA (g:=gb302) hg kA);have n7_:=Am (neB (g:=gb302) hg kA);have n8_:=Am (neA (g:=gb303) hg kA);have n9_:=Am (neB (g:=gb303) hg kA);clear BK302 BK303 HB;have BK302:=n0_;have BK303:=n1_;have HB:=n2_;have BK304:=n3_;have GW304:=n4_;have GE304:=n5_;have NB302_304:=n6_;have NB304_302:=n7_;have NB303_304:=n8_;have NB304_303:=n9_;clear n0_ n1_ n2_ n3_ n4_ n5_ n6_ n7_ n8_ n9_ hb hbox hg;have hnb26:=NB302_303.out;have hnc26:=NB303_302.out;have hnb27:=NB302_304.out;have hnc27:=NB304_302.out;have hcz28_0 : w25.cell? ⟨gb302,0,none⟩ = some (.int .i64 a0_0):=(blk_cell BK302.out 0).trans rfl;have hcz28_1 : w25.cell? ⟨gb302,1,none⟩ = some (.int .i64 a0_1):=(blk_cell BK302.out 1).trans rfl;have hcz28_2 : w25.cell? ⟨gb302,2,none⟩ = some (.int .i64 a0_2):=(blk_cell BK302.out 2).trans rfl;have hcz28_3 : w25.cell? ⟨gb302,3,none⟩ = some (.int .i64 a0_3):=(blk_cell BK302.out 3).trans rfl;have hcz28_4 : w25.cell? ⟨gb302,4,none⟩ = some (.int .i64 a0_4):=(blk_cell BK302.out 4).trans rfl;have hcz28_5 : w25.cell? ⟨gb302,5,none⟩ = some (.int .i64 a0_5):=(blk_cell BK302.out 5).trans rfl;have hcz28_6 : w25.cell? ⟨gb302,6,none⟩ = some (.int .i64 a0_6):=(blk_cell BK302.out 6).trans rfl;have hcz28_7 : w25.cell? ⟨gb302,7,none⟩ = some (.int .i64 a0_7):=(blk_cell BK302.out 7).trans rfl;have hfz28_0:=blk_frozen BK302.out 0;have hfz28_1:=blk_frozen BK302.out 1;have hfz28_2:=blk_frozen BK302.out 2;have hfz28_3:=blk_frozen BK302.out 3;have hfz28_4:=blk_frozen BK302.out 4;have hfz28_5:=blk_frozen BK302.out 5;have hfz28_6:=blk_frozen BK302.out 6;have hfz28_7:=blk_frozen BK302.out 7) | ((with_reducible refine gate_callee (f:=32) rfl ?_);refine goesL_ (some 12) rfl rfl Tryd.func32 (by kernel_rfl) rfl #[.agg #[.int .i64 a0_0,.int .i64 a0_1,.int .i64 a0_2,.int .i64 a0_3,.int .i64 a0_4,.int .i64 a0_5,.int .i64 a0_6,.int .i64 a0_7]] rfl aA ?_;(with_reducible refine (backfillref11_C.calls a0_0 a0_1 a0_2 a0_3 a0_4 a0_5 a0_6 a0_7 t307 _ A14.out).mono ?_);rintro e w29 ⟨rfl,hb⟩;refine ⟨_,rfl,?_⟩;have n0_:=Am (blk_below (g:=gb302) kA hb);have n1_:=Am (blk_below (g:=gb303) kA hb);have n2_:=Am (blk_below (g:=gb304) kA hb);have n3_:=Am (below_step bA hb);clear BK302 BK303 BK304 HB;have BK302:=n0_;have BK303:=n1_;have BK304:=n2_;have HB:=n3_;clear n0_ n1_ n2_ n3_;(try clear hb)) | ((with_reducible refine gate_callee (f:=12) rfl ?_);refine goesL_ (some 14) rfl rfl Tryd.func12 (by kernel_rfl) rfl #[.int .u64 (IntKind.u64.wrap (t307)),.int .u64 4294967296] rfl aA ?_;(with_reducible refine (backfillref01_Mul.calls (IntKind.u64.wrap (t307)) 4294967296 t308 t309 _ A15.out).mono ?_);rintro e w30 ⟨rfl,hb⟩;refine ⟨_,rfl,?_⟩;have n0_:=Am (blk_below (g:=gb302) kA hb);have n1_:=Am (blk_below (g:=gb303) kA hb);have n2_:=Am (blk_below (g:=gb304) kA hb);have n3_:=Am (below_step bA hb);clear BK302 BK303 BK304 HB;have BK302:=n0_;have BK303:=n1_;have BK304:=n2_;have HB:=n3_;clear n0_ n1_ n2_ n3_;(try clear hb)) | ((with_reducible refine gate_dst (N:=4) rfl ?_);refine bxA 4 #[.int .u64 0,.int .u64 0] 40 ?_;intro gb310 hg w31 hbox hb;have n0_:=Am (blk_below (g:=gb302) kA hb);have n1_:=Am (blk_below (g:=gb303) kA hb);have n2_:=Am (blk_below (g:=gb304) kA hb);have n3_:=Am (below_step bA hb);have n4_:=Am (hbox);have n5_:=Am (gwA hg bA);have n6_:=Am (gwA hg bA);have n7_:=Am (neA (g:=gb302) hg kA);have n8_:=Am (neB (g:=gb302) hg kA);have n9_:=Am (neA (g:=gb303) hg kA);have n10_:=Am (neB (g:=gb303) hg kA);have n11_:=Am (neA (g:=gb304) hg kA);have n12_:=Am (neB (g:=gb304) hg kA);clear BK302 BK303 BK304 HB;have BK302:=n0_;have BK303:=n1_;have BK304:=n2_;have HB:=n3_;have BK310:=n4_;have GW310:=n5_;have GE310:=n6_;have NB302_310:=n7_;have NB310_302:=n8_;have NB303_310:=n9_;have NB310_303:=n10_;have NB304_310:=n11_;have NB310_304:=n12_;clear n0_ n1_ n2_ n3_ n4_ n5_ n6_ n7_ n8_ n9_ n10_ n11_ n12_ hb hbox hg;have hnb32:=NB310_302.out;have hnc32:=NB302_310.out;have hnb33:=NB310_303.out;have hnc33:=NB303_310.out;have hnb34:=NB310_304.out;have hnc34:=NB304_310.out;have hcz35_0 : w31.cell? ⟨gb310,0,none⟩ = some (.int .u64 0):=(blk_cell BK310.out 0).trans rfl;have hcz35_1 : w31.cell? ⟨gb310,1,none⟩ = some (.int .u64 0):=(blk_cell BK310.out 1).trans rfl;have hfz35_0:=blk_frozen BK310.out 0;have hfz35_1:=blk_frozen BK310.out 1;have hcz36_0 : w31.cell? ⟨gb302,0,none⟩ = some (.int .i64 a0_0):=(blk_cell BK302.out 0).trans rfl;have hcz36_1 : w31.cell? ⟨gb302,1,none⟩ = some (.int .i64 a0_1):=(blk_cell BK302.out 1).trans rfl;have hcz36_2 : w31.cell? ⟨gb302,2,none⟩ = some (.int .i64 a0_2):=(blk_cell BK302.out 2).trans rfl;have hcz36_3 : w31.cell? ⟨gb302,3,none⟩ = some (.int .i64 a0_3):=(blk_cell BK302.out 3).trans rfl;have hcz36_4 : w31.cell? ⟨gb302,4,none⟩ = some (.int .i64 a0_4):=(blk_cell BK302.out 4).trans rfl;have hcz36_5 : w31.cell? ⟨gb302,5,none⟩ = some (.int .i64 a0_5):=(blk_cell BK302.out 5).trans rfl;have hcz36_6 : w31.cell? ⟨gb302,6,none⟩ = some (.int .i64 a0_6):=(blk_cell BK302.out 6).trans rfl;have hcz36_7 : w31.cell? ⟨gb302,7,none⟩ = some (.int .i64 a0_7):=(blk_cell BK302.out 7).trans rfl;have hfz36_0:=blk_frozen BK302.out 0;have hfz36_1:=blk_frozen BK302.out 1;have hfz36_2:=blk_frozen BK302.out 2;have hfz36_3:=blk_frozen BK302.out 3;have hfz36_4:=blk_frozen BK302.out 4;have hfz36_5:=blk_frozen BK302.out 5;have hfz36_6:=blk_frozen BK302.out 6;have hfz36_7:=blk_frozen BK302.out 7) | ((with_reducible refine gate_callee (f:=52) rfl ?_);refine goesL_ (some 16) rfl rfl Tryd.func52 (by kernel_rfl) rfl #[.agg #[.int .i64 a0_0,.int .i64 a0_1,.int .i64 a0_2,.int .i64 a0_3,.int .i64 a0_4,.int .i64 a0_5,.int .i64 a0_6,.int .i64 a0_7]] rfl aA ?_;(with_reducible refine (backfillref11_G.calls a0_0 a0_1 a0_2 a0_3 a0_4 a0_5 a0_6 a0_7 t311 _ A16.out).mono ?_);rintro e w37 ⟨rfl,hb⟩;refine ⟨_,rfl,?_⟩;have n0_:=Am (blk_below (g:=gb302) (o:=.cells #[.int .i64 a0_0,.int .i64 a0_1,.int .i64 a0_2,.int .i64 a0_3,.int .i64 a0_4,.int .i64 a0_5,.int .i64 a0_6,.int .i64 a0_7] 23 (0,0)) (by (with_reducible repeat (first | refine b1 ?_ _ | refine b2 ?_ | refine b3 ?_ _));refine blk_far ?_ NB302_310.out _;(with_reducible repeat (first | refine b1 ?_ _ | refine b2 ?_ | refine b3 ?_ _));refine blk_far ?_ NB302_310.out _;exact kA) hb);have n1_:=Am (blk_below (g:=gb303) (o:=.cells #[.int .u64 0,.int .u64 0] 40 (0,0)) (by (with_reducible repeat (first | refine b1 ?_ _ | refine b2 ?_ | refine b3 ?_ _));refine blk_far ?_ NB303_310.out _;(with_reducible repeat (first | refine b1 ?_ _ | refine b2 ?_ | refine b3 ?_ _));refine blk_far ?_ NB303_310.out _;exact kA) hb);have n2_:=Am (blk_below (g:=gb304) (o:=.cells #[.int .u64 0,.int .u64 0] 40 (0,0)) (by (with_reducible repeat (first | refine b1 ?_ _ | refine b2 ?_ | refine b3 ?_ _));refine blk_far ?_ NB304_310.out _;(with_reducible repeat (first | refine b1 ?_ _ | refine b2 ?_ | refine b3 ?_ _));refine blk_far ?_ NB304_310.out _;exact kA) hb);have n3_:=Am (blk_below (g:=gb310) (o:=.cells #[.int .u64 t308,.int .u64 t309] 40 (0,0)) (by (with_reducible repeat (first | refine b1 ?_ _ | refine b2 ?_ | refine b3 ?_ _));refine blk_put (cs:=#[.int .u64 t308,.int .u64 0]) ?_ 1 _ rfl;(with_reducible repeat (first | refine b1 ?_ _ | refine b2 ?_ | refine b3 ?_ _));refine blk_put (cs:=#[.int .u64 0,.int .u64 0]) ?_ 0 _ rfl;exact kA) hb);have n4_:=Am (below_step bA hb);clear BK302 BK303 BK304 BK310 HB;have BK302:=n0_;have BK303:=n1_;have BK304:=n2_;have BK310:=n3_;have HB:=n4_;clear n0_ n1_ n2_ n3_ n4_;(try clear hb)) | ((with_reducible refine gate_callee (f:=12) rfl ?_);refine goesL_ (some 18) rfl rfl Tryd.func12 (by kernel_rfl) rfl #[.int .u64 258048,.int .u64 (IntKind.u64.wrap (t311))] rfl aA ?_;(with_reducible refine (backfillref01_Mul.calls 258048 (IntKind.u64.wrap (t311)) t312 t313 _ A17.out).mono ?_);rintro e w38 ⟨rfl,hb⟩;refine ⟨_,rfl,?_⟩;have n0_:=Am (blk_below (g:=gb302) kA hb);have n1_:=Am (blk_below (g:=gb303) kA hb);have n2_:=Am (blk_below (g:=gb304) kA hb);have n3_:=Am (blk_below (g:=gb310) kA hb);have n4_:=Am (below_step bA hb);clear BK302 BK303 BK304 BK310 HB;have BK302:=n0_;have BK303:=n1_;have BK304:=n2_;have BK310:=n3_;have HB:=n4_;clear n0_ n1_ n2_ n3_ n4_;(try clear hb)) | ((with_reducible refine gate_dst (N:=5) rfl ?_);refine bxA 5 #[.int .u64 0,.int .u64 0] 40 ?_;intro gb314 hg w39 hbox hb;have n0_:=Am (blk_below (g:=gb302) kA hb);have n1_:=Am (blk_below (g:=gb303) kA hb);have n2_:=Am (blk_below (g:=gb304) kA hb);have n3_:=Am (blk_below (g:=gb310) kA hb);have n4_:=Am (below_step bA hb);have n5_:=Am (hbox);have n6_:=Am (gwA hg bA);have n7_:=Am (gwA hg bA);have n8_:=Am (neA (g:=gb302) hg kA);have n9_:=Am (neB (g:=gb302) hg kA);have n10_:=Am (neA (g:=gb303) hg kA);have n11_:=Am (neB (g:=gb303) hg kA);have n12_:=Am (neA (g:=gb304) hg kA);have n13_:=Am (neB (g:=gb304) hg kA);have n14_:=Am (neA (g:=gb310) hg kA);have n15_:=Am (neB (g:=gb310) hg kA);clear BK302 BK303 BK304 BK310 HB;have BK302:=n0_;have BK303:=n1_;have BK304:=n2_;have BK310:=n3_;have HB:=n4_;have BK314:=n5_;have GW314:=n6_;have GE314:=n7_;have NB302_314:=n8_;have NB314_302:=n9_;have NB303_314:=n10_;have NB314_303:=n11_;have NB304_314:=n12_;have NB314_304:=n13_;have NB310_314:=n14_;have NB314_310:=n15_;clear n0_ n1_ n2_ n3_ n4_ n5_ n6_ n7_ n8_ n9_ n10_ n11_ n12_ n13_ n14_ n15_ hb hbox hg;have hnb40:=NB314_302.out;have hnc40:=NB302_314.out;have hnb41:=NB314_303.out;have hnc41:=NB303_314.out;have hnb42:=NB314_304.out;have hnc42:=NB304_314.out;have hnb43:=NB314_310.out;have hnc43:=NB310_314.out;have hcz44_0 : w39.cell? ⟨gb314,0,none⟩ = some (.int .u64 0):=(blk_cell BK314.out 0).trans rfl;have hcz44_1 : w39.cell? ⟨gb314,1,none⟩ = some (.int .u64 0):=(blk_cell BK314.out 1).trans rfl;have hfz44_0:=blk_frozen BK314.out 0;have hfz44_1:=blk_frozen BK314.out 1))
  have n0_ : Aside0 (((w39.setCell ⟨gb314,0,none⟩ (.int .u64 t312)).setCell ⟨gb314,1,none⟩ (.int .u64 t313)).heap[gb302]? = some (.cells #[.int .i64 a0_0,.int .i64 a0_1,.int .i64 a0_2,.int .i64 a0_3,.int .i64 a0_4,.int .i64 a0_5,.int .i64 a0_6,.int .i64 a0_7] 23 (0,0))):=⟨by (with_reducible repeat (first | refine b1 ?_ _ | refine b2 ?_ | refine b3 ?_ _));refine blk_far ?_ NB302_314.out _;(with_reducible repeat (first | refine b1 ?_ _ | refine b2 ?_ | refine b3 ?_ _));refine blk_far ?_ NB302_314.out _;exact kA⟩
  have n1_ : Aside0 (((w39.setCell ⟨gb314,0,none⟩ (.int .u64 t312)).setCell ⟨gb314,1,none⟩ (.int .u64 t313)).heap[gb303]? = some (.cells #[.int .u64 0,.int .u64 0] 40 (0,0))):=⟨by (with_reducible repeat (first | refine b1 ?_ _ | refine b2 ?_ | refine b3 ?_ _));refine blk_far ?_ NB303_314.out _;(with_reducible repeat (first | refine b1 ?_ _ | refine b2 ?_ | refine b3 ?_ _));refine blk_far ?_ NB303_314.out _;exact kA⟩
  have n2_ : Aside0 (((w39.setCell ⟨gb314,0,none⟩ (.int .u64 t312)).setCell ⟨gb314,1,none⟩ (.int .u64 t313)).heap[gb304]? = some (.cells #[.int .u64 0,.int .u64 0] 40 (0,0))):=⟨by (with_reducible repeat (first | refine b1 ?_ _ | refine b2 ?_ | refine b3 ?_ _));refine blk_far ?_ NB304_314.out _;(with_reducible repeat (first | refine b1 ?_ _ | refine b2 ?_ | refine b3 ?_ _));refine blk_far ?_ NB304_314.out _;exact kA⟩
  have n3_ : Aside0 (((w39.setCell ⟨gb314,0,none⟩ (.int .u64 t312)).setCell ⟨gb314,1,none⟩ (.int .u64 t313)).heap[gb310]? = some (.cells #[.int .u64 t308,.int .u64 t309] 40 (0,0))):=⟨by (with_reducible repeat (first | refine b1 ?_ _ | refine b2 ?_ | refine b3 ?_ _));refine blk_far ?_ NB310_314.out _;(with_reducible repeat (first | refine b1 ?_ _ | refine b2 ?_ | refine b3 ?_ _));refine blk_far ?_ NB310_314.out _;exact kA⟩
  have n4_ : Aside0 (((w39.setCell ⟨gb314,0,none⟩ (.int .u64 t312)).setCell ⟨gb314,1,none⟩ (.int .u64 t313)).heap[gb314]? = some (.cells #[.int .u64 t312,.int .u64 t313] 40 (0,0))):=⟨by (with_reducible repeat (first | refine b1 ?_ _ | refine b2 ?_ | refine b3 ?_ _));refine blk_put (cs:=#[.int .u64 t312,.int .u64 0]) ?_ 1 _ rfl;(with_reducible repeat (first | refine b1 ?_ _ | refine b2 ?_ | refine b3 ?_ _));refine blk_put (cs:=#[.int .u64 0,.int .u64 0]) ?_ 0 _ rfl;exact kA⟩
  have n5_ : Aside0 (Below w.heap.size w ((w39.setCell ⟨gb314,0,none⟩ (.int .u64 t312)).setCell ⟨gb314,1,none⟩ (.int .u64 t313))):=⟨bA⟩
  (try clear BK302);(try clear BK303);(try clear BK304);(try clear BK310);(try clear BK314);(try clear HB)
  generalize ((w39.setCell ⟨gb314,0,none⟩ (.int .u64 t312)).setCell ⟨gb314,1,none⟩ (.int .u64 t313)) = w45 at n0_ n1_ n2_ n3_ n4_ n5_ ⊢
  have BK302:=n0_;have BK303:=n1_;have BK304:=n2_;have BK310:=n3_;have BK314:=n4_;have HB:=n5_;clear n0_ n1_ n2_ n3_ n4_ n5_;have n0_:=Am (blk_drew BK302.out);have n1_:=Am (blk_drew BK303.out);have n2_:=Am (blk_drew BK304.out);have n3_:=Am (blk_drew BK310.out);have n4_:=Am (blk_drew BK314.out);have n5_:=Am (below_drew1 HB.out);clear BK302 BK303 BK304 BK310 BK314 HB;have BK302:=n0_;have BK303:=n1_;have BK304:=n2_;have BK310:=n3_;have BK314:=n4_;have HB:=n5_;clear n0_ n1_ n2_ n3_ n4_ n5_
  refine start_ (n:=11) (S:=fun w' => w'.cell? ⟨gb314,0,none⟩ = some (.int .u64 t312) ∧ w'.cell? ⟨gb314,1,none⟩ = some (.int .u64 t313) ∧ w'.cell? ⟨gb302,0,none⟩ = some (.int .i64 a0_0) ∧ w'.cell? ⟨gb302,1,none⟩ = some (.int .i64 a0_1) ∧ w'.cell? ⟨gb302,2,none⟩ = some (.int .i64 a0_2) ∧ w'.cell? ⟨gb302,3,none⟩ = some (.int .i64 a0_3) ∧ w'.cell? ⟨gb302,4,none⟩ = some (.int .i64 a0_4) ∧ w'.cell? ⟨gb302,5,none⟩ = some (.int .i64 a0_5) ∧ w'.cell? ⟨gb302,6,none⟩ = some (.int .i64 a0_6) ∧ w'.cell? ⟨gb302,7,none⟩ = some (.int .i64 a0_7)) (ds:=[10]) #[nn,nn,nn,nn,nn,nn,nn,nn,nn,nn,nn] (by kernel_rfl) rfl rfl ⟨(blk_cell BK314.out 0).trans rfl,(blk_cell BK314.out 1).trans rfl,(blk_cell BK302.out 0).trans rfl,(blk_cell BK302.out 1).trans rfl,(blk_cell BK302.out 2).trans rfl,(blk_cell BK302.out 3).trans rfl,(blk_cell BK302.out 4).trans rfl,(blk_cell BK302.out 5).trans rfl,(blk_cell BK302.out 6).trans rfl,(blk_cell BK302.out 7).trans rfl⟩ (fun hHeld => ?_);refine with_tabW backfillref11_off.tab5 backfillref11_off.bits5 (fun HT_ HW_ => ?_)
  generalize w45.drew = w46 at BK302 BK303 BK304 BK310 BK314 HB hHeld ⊢
  refine take_ (i:=0) (N:=some 20) (v:=?_) (a':=?_) #[yy,nn,nn,nn,nn,nn,nn,nn,nn,nn,nn] rfl rfl (take_ofW HT_.out HW_.out (by kernel_rfl)) (fun _ _ _ h => h) (Or.inl ⟨by rfl,?_⟩) hHeld ?_ ?_
  rotate_left
  ·rintro w' ⟨s0,s1,s2,s3,s4,s5,s6,s7,s8,s9⟩
   go_simp;with_reducible rfl
  rotate_left
  ·simp only [NR]
   rfl
  refine take_ (i:=1) (N:=some 21) (v:=?_) (a':=?_) #[yy,yy,nn,nn,nn,nn,nn,nn,nn,nn,nn] rfl rfl (take_ofW HT_.out HW_.out (by kernel_rfl)) (fun _ _ _ h => h) (Or.inl ⟨by rfl,?_⟩) hHeld ?_ ?_
  rotate_left
  ·rintro w' ⟨s0,s1,s2,s3,s4,s5,s6,s7,s8,s9⟩
   go_simp;with_reducible rfl
  rotate_left
  ·simp only [NR]
   rfl
  refine one_ (i:=2) (N:=some 22) #[yy,yy,yy,nn,nn,nn,nn,nn,nn,nn,nn] rfl rfl (one_of HT_.out (by kernel_rfl)) (by decide) (fun K hK => ?_)
  refine goes_ Tryd.func32 (by kernel_rfl) rfl #[.agg #[.int .i64 a0_0,.int .i64 a0_1,.int .i64 a0_2,.int .i64 a0_3,.int .i64 a0_4,.int .i64 a0_5,.int .i64 a0_6,.int .i64 a0_7]] (by rfl) rfl rfl aA ?_
  with_reducible refine (backfillref11_C.calls a0_0 a0_1 a0_2 a0_3 a0_4 a0_5 a0_6 a0_7 t315 _ A18.out).mono ?_
  rintro e w47 ⟨rfl,hb⟩
  refine ⟨_,rfl,?_⟩;have n0_:=Am (blk_below (g:=gb302) kA hb);have n1_:=Am (blk_below (g:=gb303) kA hb);have n2_:=Am (blk_below (g:=gb304) kA hb);have n3_:=Am (blk_below (g:=gb310) kA hb);have n4_:=Am (blk_below (g:=gb314) kA hb);have n5_:=Am (below_step bA hb);clear BK302 BK303 BK304 BK310 BK314 HB;have BK302:=n0_;have BK303:=n1_;have BK304:=n2_;have BK310:=n3_;have BK314:=n4_;have HB:=n5_;clear n0_ n1_ n2_ n3_ n4_ n5_;(try clear hb)
  refine hK.out _ _ ⟨(blk_cell BK314.out 0).trans rfl,(blk_cell BK314.out 1).trans rfl,(blk_cell BK302.out 0).trans rfl,(blk_cell BK302.out 1).trans rfl,(blk_cell BK302.out 2).trans rfl,(blk_cell BK302.out 3).trans rfl,(blk_cell BK302.out 4).trans rfl,(blk_cell BK302.out 5).trans rfl,(blk_cell BK302.out 6).trans rfl,(blk_cell BK302.out 7).trans rfl⟩ (fun hHeld => ?_)
  clear hK K
  refine norm_ (a':=?_) ?_ ?_
  rotate_left
  ·show Act.put _ (some 22) _ = _
   simp only [NR]
   rfl
  refine pure_ (i:=3) (N:=some 23) (v:=?_) (a':=?_) #[yy,yy,yy,yy,nn,nn,nn,nn,nn,nn,nn] rfl rfl (any_of HT_.out (by kernel_rfl)) (fun _ _ _ h => h) (Or.inl ⟨by rfl,?_⟩) ?_ ?_
  rotate_left
  ·intro w'
   go_simp;with_reducible rfl
  rotate_left
  ·simp only [NR]
   rfl
  refine pure_ (i:=4) (N:=some 24) (v:=?_) (a':=?_) #[yy,yy,yy,yy,yy,nn,nn,nn,nn,nn,nn] rfl rfl (any_of HT_.out (by kernel_rfl)) (fun _ _ _ h => h) (Or.inl ⟨by rfl,?_⟩) ?_ ?_
  rotate_left
  ·intro w'
   go_simp;with_reducible rfl
  rotate_left
  ·simp only [NR]
   rfl
  refine one_ (i:=5) (N:=some 25) #[yy,yy,yy,yy,yy,yy,nn,nn,nn,nn,nn] rfl rfl (one_of HT_.out (by kernel_rfl)) (by decide) (fun K hK => ?_)
  refine goes_ Tryd.func51 (by kernel_rfl) rfl #[.int .u64 (IntKind.u64.wrap (wrap64 (2 * t315)))] (by rfl) rfl rfl aA ?_
  with_reducible refine (backfillref01_Of.calls (IntKind.u64.wrap (wrap64 (2 * t315))) t316 t317 _ A19.out).mono ?_
  rintro e w48 ⟨rfl,hb⟩
  refine ⟨_,rfl,?_⟩;have n0_:=Am (blk_below (g:=gb302) kA hb);have n1_:=Am (blk_below (g:=gb303) kA hb);have n2_:=Am (blk_below (g:=gb304) kA hb);have n3_:=Am (blk_below (g:=gb310) kA hb);have n4_:=Am (blk_below (g:=gb314) kA hb);have n5_:=Am (below_step bA hb);clear BK302 BK303 BK304 BK310 BK314 HB;have BK302:=n0_;have BK303:=n1_;have BK304:=n2_;have BK310:=n3_;have BK314:=n4_;have HB:=n5_;clear n0_ n1_ n2_ n3_ n4_ n5_;(try clear hb)
  refine hK.out _ _ ⟨(blk_cell BK314.out 0).trans rfl,(blk_cell BK314.out 1).trans rfl,(blk_cell BK302.out 0).trans rfl,(blk_cell BK302.out 1).trans rfl,(blk_cell BK302.out 2).trans rfl,(blk_cell BK302.out 3).trans rfl,(blk_cell BK302.out 4).trans rfl,(blk_cell BK302.out 5).trans rfl,(blk_cell BK302.out 6).trans rfl,(blk_cell BK302.out 7).trans rfl⟩ (fun hHeld => ?_)
  clear hK K
  refine norm_ (a':=?_) ?_ ?_
  rotate_left
  ·show Act.put _ (some 25) _ = _
   simp only [NR]
   rfl
  refine one_ (i:=6) (N:=some 26) #[yy,yy,yy,yy,yy,yy,yy,nn,nn,nn,nn] rfl rfl (one_of HT_.out (by kernel_rfl)) (by decide) (fun K hK => ?_)
  refine goes_ Tryd.func53 (by kernel_rfl) rfl #[.agg #[.int .u64 t312,.int .u64 t313],.agg #[.int .u64 t316,.int .u64 t317]] (by rfl) rfl rfl aA ?_
  with_reducible refine (backfillref01_Add.calls t312 t313 t316 t317 t318 t319 t320 _ A20.out).mono ?_
  rintro e w49 ⟨rfl,hb⟩
  refine ⟨_,rfl,?_⟩;have n0_:=Am (blk_below (g:=gb302) kA hb);have n1_:=Am (blk_below (g:=gb303) kA hb);have n2_:=Am (blk_below (g:=gb304) kA hb);have n3_:=Am (blk_below (g:=gb310) kA hb);have n4_:=Am (blk_below (g:=gb314) kA hb);have n5_:=Am (below_step bA hb);clear BK302 BK303 BK304 BK310 BK314 HB;have BK302:=n0_;have BK303:=n1_;have BK304:=n2_;have BK310:=n3_;have BK314:=n4_;have HB:=n5_;clear n0_ n1_ n2_ n3_ n4_ n5_;(try clear hb)
  refine hK.out _ _ ⟨(blk_cell BK314.out 0).trans rfl,(blk_cell BK314.out 1).trans rfl,(blk_cell BK302.out 0).trans rfl,(blk_cell BK302.out 1).trans rfl,(blk_cell BK302.out 2).trans rfl,(blk_cell BK302.out 3).trans rfl,(blk_cell BK302.out 4).trans rfl,(blk_cell BK302.out 5).trans rfl,(blk_cell BK302.out 6).trans rfl,(blk_cell BK302.out 7).trans rfl⟩ (fun hHeld => ?_)
  clear hK K
  refine norm_ (a':=?_) ?_ ?_
  rotate_left
  ·show Act.put _ (some 26) _ = _
   simp only [NR]
   rfl
  refine pure_ (i:=7) (N:=some 19) (v:=?_) (a':=?_) #[yy,yy,yy,yy,yy,yy,yy,yy,nn,nn,nn] rfl rfl (any_of HT_.out (by kernel_rfl)) (fun _ _ _ h => h) (Or.inl ⟨by rfl,?_⟩) ?_ ?_
  rotate_left
  ·intro w'
   go_simp;with_reducible rfl
  rotate_left
  ·simp only [NR]
   rfl
  refine pure_ (i:=8) (N:=some 27) (v:=?_) (a':=?_) #[yy,yy,yy,yy,yy,yy,yy,yy,yy,nn,nn] rfl rfl (any_of HT_.out (by kernel_rfl)) (fun _ _ _ h => h) (Or.inl ⟨by rfl,?_⟩) ?_ ?_
  rotate_left
  ·intro w'
   go_simp;with_reducible rfl
  rotate_left
  ·simp only [NR]
   rfl
  refine pure_ (i:=9) (N:=some 28) (v:=?_) (a':=?_) #[yy,yy,yy,yy,yy,yy,yy,yy,yy,yy,nn] rfl rfl (any_of HT_.out (by kernel_rfl)) (fun _ _ _ h => h) (Or.inl ⟨by rfl,?_⟩) ?_ ?_
  rotate_left
  ·intro w'
   go_simp;with_reducible rfl
  rotate_left
  ·simp only [NR]
   rfl
  refine last_ (i:=10) (N:=none) #[yy,yy,yy,yy,yy,yy,yy,yy,yy,yy,yy] rfl rfl (one_of HT_.out (by kernel_rfl)) (by decide) (fun K hK => ?_)
  have hs50 : w49.cell? ⟨gb314,0,none⟩ = some (.int .u64 t312):=(blk_cell BK314.out 0).trans rfl
  have hfs50:=blk_frozen BK314.out 0
  have hns50_0:=NB302_314.out
  have hns50_1:=NB303_314.out
  have hns50_2:=NB304_314.out
  have hns50_3:=NB310_314.out
  have hms50_0:=NB314_302.out
  have hms50_1:=NB314_303.out
  have hms50_2:=NB314_304.out
  have hms50_3:=NB314_310.out
  have hs51 : w49.cell? ⟨gb314,1,none⟩ = some (.int .u64 t313):=(blk_cell BK314.out 1).trans rfl
  have hfs51:=blk_frozen BK314.out 1
  have hns51_0:=NB302_314.out
  have hns51_1:=NB303_314.out
  have hns51_2:=NB304_314.out
  have hns51_3:=NB310_314.out
  have hms51_0:=NB314_302.out
  have hms51_1:=NB314_303.out
  have hms51_2:=NB314_304.out
  have hms51_3:=NB314_310.out
  refine skip_ (w1:=?_) (by rfl) rfl ?_ ?_
  rotate_left
  ·go_simp
   rfl
  refine hK.out _ _ ?_
  clear hK K
  refine done_ (done_of HT_.out (by kernel_rfl)) ?_
  have hcz52_0 : w49.cell? ⟨gb314,0,none⟩ = some (.int .u64 t312):=(blk_cell BK314.out 0).trans rfl
  have hcz52_1 : w49.cell? ⟨gb314,1,none⟩ = some (.int .u64 t313):=(blk_cell BK314.out 1).trans rfl
  have hfz52_0:=blk_frozen BK314.out 0
  have hfz52_1:=blk_frozen BK314.out 1
  have hcz53_0 : w49.cell? ⟨gb302,0,none⟩ = some (.int .i64 a0_0):=(blk_cell BK302.out 0).trans rfl
  have hcz53_1 : w49.cell? ⟨gb302,1,none⟩ = some (.int .i64 a0_1):=(blk_cell BK302.out 1).trans rfl
  have hcz53_2 : w49.cell? ⟨gb302,2,none⟩ = some (.int .i64 a0_2):=(blk_cell BK302.out 2).trans rfl
  have hcz53_3 : w49.cell? ⟨gb302,3,none⟩ = some (.int .i64 a0_3):=(blk_cell BK302.out 3).trans rfl
  have hcz53_4 : w49.cell? ⟨gb302,4,none⟩ = some (.int .i64 a0_4):=(blk_cell BK302.out 4).trans rfl
  have hcz53_5 : w49.cell? ⟨gb302,5,none⟩ = some (.int .i64 a0_5):=(blk_cell BK302.out 5).trans rfl
  have hcz53_6 : w49.cell? ⟨gb302,6,none⟩ = some (.int .i64 a0_6):=(blk_cell BK302.out 6).trans rfl
  have hcz53_7 : w49.cell? ⟨gb302,7,none⟩ = some (.int .i64 a0_7):=(blk_cell BK302.out 7).trans rfl
  have hfz53_0:=blk_frozen BK302.out 0
  have hfz53_1:=blk_frozen BK302.out 1
  have hfz53_2:=blk_frozen BK302.out 2
  have hfz53_3:=blk_frozen BK302.out 3
  have hfz53_4:=blk_frozen BK302.out 4
  have hfz53_5:=blk_frozen BK302.out 5
  have hfz53_6:=blk_frozen BK302.out 6
  have hfz53_7:=blk_frozen BK302.out 7
  try go_wp2_with (first | ((with_reducible refine gate_callee (f:=30) rfl ?_);refine goesL_ (some 34) rfl rfl Tryd.func30 (by kernel_rfl) rfl #[.agg #[.int .u64 t318,.int .u64 t319],.int .u64 (IntKind.u64.wrap (a0_4))] rfl aA ?_;(with_reducible refine (backfillref01_Times.calls t318 t319 (IntKind.u64.wrap (a0_4)) t321 t322 t323 _ A21.out).mono ?_);rintro e w54 ⟨rfl,hb⟩;refine ⟨_,rfl,?_⟩;have n0_:=Am (blk_below (g:=gb302) (o:=.cells #[.int .i64 a0_0,.int .i64 a0_1,.int .i64 a0_2,.int .i64 a0_3,.int .i64 a0_4,.int .i64 a0_5,.int .i64 a0_6,.int .i64 a0_7] 23 (0,0)) (by (with_reducible repeat (first | refine b1 ?_ _ | refine b2 ?_ | refine b3 ?_ _));refine blk_far ?_ NB302_314.out _;(with_reducible repeat (first | refine b1 ?_ _ | refine b2 ?_ | refine b3 ?_ _));refine blk_far ?_ NB302_314.out _;exact kA) hb);have n1_:=Am (blk_below (g:=gb303) (o:=.cells #[.int .u64 0,.int .u64 0] 40 (0,0)) (by (with_reducible repeat (first | refine b1 ?_ _ | refine b2 ?_ | refine b3 ?_ _));refine blk_far ?_ NB303_314.out _;(with_reducible repeat (first | refine b1 ?_ _ | refine b2 ?_ | refine b3 ?_ _));refine blk_far ?_ NB303_314.out _;exact kA) hb);have n2_:=Am (blk_below (g:=gb304) (o:=.cells #[.int .u64 0,.int .u64 0] 40 (0,0)) (by (with_reducible repeat (first | refine b1 ?_ _ | refine b2 ?_ | refine b3 ?_ _));refine blk_far ?_ NB304_314.out _;(with_reducible repeat (first | refine b1 ?_ _ | refine b2 ?_ | refine b3 ?_ _));refine blk_far ?_ NB304_314.out _;exact kA) hb);have n3_:=Am (blk_below (g:=gb310) (o:=.cells #[.int .u64 t308,.int .u64 t309] 40 (0,0)) (by (with_reducible repeat (first | refine b1 ?_ _ | refine b2 ?_ | refine b3 ?_ _));refine blk_far ?_ NB310_314.out _;(with_reducible repeat (first | refine b1 ?_ _ | refine b2 ?_ | refine b3 ?_ _));refine blk_far ?_ NB310_314.out _;exact kA) hb);have n4_:=Am (blk_below (g:=gb314) (o:=.cells #[.int .u64 t318,.int .u64 t319] 40 (0,0)) (by (with_reducible repeat (first | refine b1 ?_ _ | refine b2 ?_ | refine b3 ?_ _));refine blk_put (cs:=#[.int .u64 t318,.int .u64 t313]) ?_ 1 _ rfl;(with_reducible repeat (first | refine b1 ?_ _ | refine b2 ?_ | refine b3 ?_ _));refine blk_put (cs:=#[.int .u64 t312,.int .u64 t313]) ?_ 0 _ rfl;exact kA) hb);have n5_:=Am (below_step bA hb);clear BK302 BK303 BK304 BK310 BK314 HB;have BK302:=n0_;have BK303:=n1_;have BK304:=n2_;have BK310:=n3_;have BK314:=n4_;have HB:=n5_;clear n0_ n1_ n2_ n3_ n4_ n5_;(try clear hb);have hcz55_0 : w54.cell? ⟨gb314,0,none⟩ = some (.int .u64 t318):=(blk_cell BK314.out 0).trans rfl;have hcz55_1 : w54.cell? ⟨gb314,1,none⟩ = some (.int .u64 t319):=(blk_cell BK314.out 1).trans rfl;have hfz55_0:=blk_frozen BK314.out 0;have hfz55_1:=blk_frozen BK314.out 1;have hcz56_0 : w54.cell? ⟨gb310,0,none⟩ = some (.int .u64 t308):=(blk_cell BK310.out 0).trans rfl;have hcz56_1 : w54.cell? ⟨gb310,1,none⟩ = some (.int .u64 t309):=(blk_cell BK310.out 1).trans rfl;have hfz56_0:=blk_frozen BK310.out 0;have hfz56_1:=blk_frozen BK310.out 1) | ((with_reducible refine gate_callee (f:=53) rfl ?_);refine goesL_ (some 40) rfl rfl Tryd.func53 (by kernel_rfl) rfl #[.agg #[.int .u64 t321,.int .u64 t322],.agg #[.int .u64 t308,.int .u64 t309]] rfl aA ?_;(with_reducible refine (backfillref01_Add.calls t321 t322 t308 t309 t324 t325 t326 _ A22.out).mono ?_);rintro e w57 ⟨rfl,hb⟩;refine ⟨_,rfl,?_⟩;have n0_:=Am (blk_below (g:=gb302) (o:=.cells #[.int .i64 a0_0,.int .i64 a0_1,.int .i64 a0_2,.int .i64 a0_3,.int .i64 a0_4,.int .i64 a0_5,.int .i64 a0_6,.int .i64 a0_7] 23 (0,0)) (by (with_reducible repeat (first | refine b1 ?_ _ | refine b2 ?_ | refine b3 ?_ _));refine blk_far ?_ NB302_314.out _;(with_reducible repeat (first | refine b1 ?_ _ | refine b2 ?_ | refine b3 ?_ _));refine blk_far ?_ NB302_314.out _;exact kA) hb);have n1_:=Am (blk_below (g:=gb303) (o:=.cells #[.int .u64 0,.int .u64 0] 40 (0,0)) (by (with_reducible repeat (first | refine b1 ?_ _ | refine b2 ?_ | refine b3 ?_ _));refine blk_far ?_ NB303_314.out _;(with_reducible repeat (first | refine b1 ?_ _ | refine b2 ?_ | refine b3 ?_ _));refine blk_far ?_ NB303_314.out _;exact kA) hb);have n2_:=Am (blk_below (g:=gb304) (o:=.cells #[.int .u64 0,.int .u64 0] 40 (0,0)) (by (with_reducible repeat (first | refine b1 ?_ _ | refine b2 ?_ | refine b3 ?_ _));refine blk_far ?_ NB304_314.out _;(with_reducible repeat (first | refine b1 ?_ _ | refine b2 ?_ | refine b3 ?_ _));refine blk_far ?_ NB304_314.out _;exact kA) hb);have n3_:=Am (blk_below (g:=gb310) (o:=.cells #[.int .u64 t308,.int .u64 t309] 40 (0,0)) (by (with_reducible repeat (first | refine b1 ?_ _ | refine b2 ?_ | refine b3 ?_ _));refine blk_far ?_ NB310_314.out _;(with_reducible repeat (first | refine b1 ?_ _ | refine b2 ?_ | refine b3 ?_ _));refine blk_far ?_ NB310_314.out _;exact kA) hb);have n4_:=Am (blk_below (g:=gb314) (o:=.cells #[.int .u64 t321,.int .u64 t322] 40 (0,0)) (by (with_reducible repeat (first | refine b1 ?_ _ | refine b2 ?_ | refine b3 ?_ _));refine blk_put (cs:=#[.int .u64 t321,.int .u64 t319]) ?_ 1 _ rfl;(with_reducible repeat (first | refine b1 ?_ _ | refine b2 ?_ | refine b3 ?_ _));refine blk_put (cs:=#[.int .u64 t318,.int .u64 t319]) ?_ 0 _ rfl;exact kA) hb);have n5_:=Am (below_step bA hb);clear BK302 BK303 BK304 BK310 BK314 HB;have BK302:=n0_;have BK303:=n1_;have BK304:=n2_;have BK310:=n3_;have BK314:=n4_;have HB:=n5_;clear n0_ n1_ n2_ n3_ n4_ n5_;(try clear hb);have hcz58_0 : w57.cell? ⟨gb314,0,none⟩ = some (.int .u64 t321):=(blk_cell BK314.out 0).trans rfl;have hcz58_1 : w57.cell? ⟨gb314,1,none⟩ = some (.int .u64 t322):=(blk_cell BK314.out 1).trans rfl;have hfz58_0:=blk_frozen BK314.out 0;have hfz58_1:=blk_frozen BK314.out 1))
  have n0_ : Aside0 (((w57.setCell ⟨gb314,0,none⟩ (.int .u64 t324)).setCell ⟨gb314,1,none⟩ (.int .u64 t325)).heap[gb302]? = some (.cells #[.int .i64 a0_0,.int .i64 a0_1,.int .i64 a0_2,.int .i64 a0_3,.int .i64 a0_4,.int .i64 a0_5,.int .i64 a0_6,.int .i64 a0_7] 23 (0,0))):=⟨by (with_reducible repeat (first | refine b1 ?_ _ | refine b2 ?_ | refine b3 ?_ _));refine blk_far ?_ NB302_314.out _;(with_reducible repeat (first | refine b1 ?_ _ | refine b2 ?_ | refine b3 ?_ _));refine blk_far ?_ NB302_314.out _;exact kA⟩
  have n1_ : Aside0 (((w57.setCell ⟨gb314,0,none⟩ (.int .u64 t324)).setCell ⟨gb314,1,none⟩ (.int .u64 t325)).heap[gb303]? = some (.cells #[.int .u64 0,.int .u64 0] 40 (0,0))):=⟨by (with_reducible repeat (first | refine b1 ?_ _ | refine b2 ?_ | refine b3 ?_ _));refine blk_far ?_ NB303_314.out _;(with_reducible repeat (first | refine b1 ?_ _ | refine b2 ?_ | refine b3 ?_ _));refine blk_far ?_ NB303_314.out _;exact kA⟩
  have n2_ : Aside0 (((w57.setCell ⟨gb314,0,none⟩ (.int .u64 t324)).setCell ⟨gb314,1,none⟩ (.int .u64 t325)).heap[gb304]? = some (.cells #[.int .u64 0,.int .u64 0] 40 (0,0))):=⟨by (with_reducible repeat (first | refine b1 ?_ _ | refine b2 ?_ | refine b3 ?_ _));refine blk_far ?_ NB304_314.out _;(with_reducible repeat (first | refine b1 ?_ _ | refine b2 ?_ | refine b3 ?_ _));refine blk_far ?_ NB304_314.out _;exact kA⟩
  have n3_ : Aside0 (((w57.setCell ⟨gb314,0,none⟩ (.int .u64 t324)).setCell ⟨gb314,1,none⟩ (.int .u64 t325)).heap[gb310]? = some (.cells #[.int .u64 t308,.int .u64 t309] 40 (0,0))):=⟨by (with_reducible repeat (first | refine b1 ?_ _ | refine b2 ?_ | refine b3 ?_ _));refine blk_far ?_ NB310_314.out _;(with_reducible repeat (first | refine b1 ?_ _ | refine b2 ?_ | refine b3 ?_ _));refine blk_far ?_ NB310_314.out _;exact kA⟩
  have n4_ : Aside0 (((w57.setCell ⟨gb314,0,none⟩ (.int .u64 t324)).setCell ⟨gb314,1,none⟩ (.int .u64 t325)).heap[gb314]? = some (.cells #[.int .u64 t324,.int .u64 t325] 40 (0,0))):=⟨by (with_reducible repeat (first | refine b1 ?_ _ | refine b2 ?_ | refine b3 ?_ _));refine blk_put (cs:=#[.int .u64 t324,.int .u64 t322]) ?_ 1 _ rfl;(with_reducible repeat (first | refine b1 ?_ _ | refine b2 ?_ | refine b3 ?_ _));refine blk_put (cs:=#[.int .u64 t321,.int .u64 t322]) ?_ 0 _ rfl;exact kA⟩
  have n5_ : Aside0 (Below w.heap.size w ((w57.setCell ⟨gb314,0,none⟩ (.int .u64 t324)).setCell ⟨gb314,1,none⟩ (.int .u64 t325))):=⟨bA⟩
  (try clear BK302);(try clear BK303);(try clear BK304);(try clear BK310);(try clear BK314);(try clear HB)
  generalize ((w57.setCell ⟨gb314,0,none⟩ (.int .u64 t324)).setCell ⟨gb314,1,none⟩ (.int .u64 t325)) = w59 at n0_ n1_ n2_ n3_ n4_ n5_ ⊢
  have BK302:=n0_;have BK303:=n1_;have BK304:=n2_;have BK310:=n3_;have BK314:=n4_;have HB:=n5_;clear n0_ n1_ n2_ n3_ n4_ n5_;have n0_:=Am (blk_drew BK302.out);have n1_:=Am (blk_drew BK303.out);have n2_:=Am (blk_drew BK304.out);have n3_:=Am (blk_drew BK310.out);have n4_:=Am (blk_drew BK314.out);have n5_:=Am (below_drew1 HB.out);clear BK302 BK303 BK304 BK310 BK314 HB;have BK302:=n0_;have BK303:=n1_;have BK304:=n2_;have BK310:=n3_;have BK314:=n4_;have HB:=n5_;clear n0_ n1_ n2_ n3_ n4_ n5_
  refine start_ (n:=4) (S:=fun w' => w'.cell? ⟨gb314,0,none⟩ = some (.int .u64 t324) ∧ w'.cell? ⟨gb314,1,none⟩ = some (.int .u64 t325) ∧ w'.cell? ⟨gb310,0,none⟩ = some (.int .u64 t308) ∧ w'.cell? ⟨gb310,1,none⟩ = some (.int .u64 t309)) (ds:=[]) #[nn,nn,nn,nn] (by kernel_rfl) rfl rfl ⟨(blk_cell BK314.out 0).trans rfl,(blk_cell BK314.out 1).trans rfl,(blk_cell BK310.out 0).trans rfl,(blk_cell BK310.out 1).trans rfl⟩ (fun hHeld => ?_)
  generalize w59.drew = w60 at BK302 BK303 BK304 BK310 BK314 HB hHeld ⊢
  refine take_ (i:=0) (N:=some 43) (v:=?_) (a':=?_) #[yy,nn,nn,nn] rfl rfl (by kernel_rfl) (fun _ _ _ h => h) (Or.inl ⟨by rfl,?_⟩) hHeld ?_ ?_
  rotate_left
  ·rintro w' ⟨s0,s1,s2,s3⟩
   go_simp;with_reducible rfl
  rotate_left
  ·simp only [NR]
   rfl
  refine take_ (i:=1) (N:=some 44) (v:=?_) (a':=?_) #[yy,yy,nn,nn] rfl rfl (by kernel_rfl) (fun _ _ _ h => h) (Or.inl ⟨by rfl,?_⟩) hHeld ?_ ?_
  rotate_left
  ·rintro w' ⟨s0,s1,s2,s3⟩
   go_simp;with_reducible rfl
  rotate_left
  ·simp only [NR]
   rfl
  refine one_ (i:=2) (N:=none) #[yy,yy,yy,nn] rfl rfl (by kernel_rfl) (by decide) (fun K hK => ?_)
  have hs61 : w60.cell? ⟨gb303,0,none⟩ = some (.int .u64 0):=(blk_cell BK303.out 0).trans rfl
  have hfs61:=blk_frozen BK303.out 0
  have hns61_0:=NB302_303.out
  have hns61_2:=NB304_303.out
  have hns61_3:=NB310_303.out
  have hns61_4:=NB314_303.out
  have hms61_0:=NB303_302.out
  have hms61_2:=NB303_304.out
  have hms61_3:=NB303_310.out
  have hms61_4:=NB303_314.out
  have hs62 : w60.cell? ⟨gb303,1,none⟩ = some (.int .u64 0):=(blk_cell BK303.out 1).trans rfl
  have hfs62:=blk_frozen BK303.out 1
  have hns62_0:=NB302_303.out
  have hns62_2:=NB304_303.out
  have hns62_3:=NB310_303.out
  have hns62_4:=NB314_303.out
  have hms62_0:=NB303_302.out
  have hms62_2:=NB303_304.out
  have hms62_3:=NB303_310.out
  have hms62_4:=NB303_314.out
  refine skip_ (w1:=?_) (by rfl) rfl ?_ ?_
  rotate_left
  ·go_simp
   rfl
  refine hK.out _ _ ⟨((cell_far (p:=⟨gb303,_,none⟩) NB314_303.out _).trans (((cell_far (p:=⟨gb303,_,none⟩) NB314_303.out _).trans (hHeld.1)))),((cell_far (p:=⟨gb303,_,none⟩) NB314_303.out _).trans (((cell_far (p:=⟨gb303,_,none⟩) NB314_303.out _).trans (hHeld.2.1)))),((cell_far (p:=⟨gb303,_,none⟩) NB310_303.out _).trans (((cell_far (p:=⟨gb303,_,none⟩) NB310_303.out _).trans (hHeld.2.2.1)))),((cell_far (p:=⟨gb303,_,none⟩) NB310_303.out _).trans (((cell_far (p:=⟨gb303,_,none⟩) NB310_303.out _).trans (hHeld.2.2.2))))⟩ (fun hHeld => ?_)
  clear hK K
  refine one_ (i:=3) (N:=none) #[yy,yy,yy,yy] rfl rfl (by kernel_rfl) (by decide) (fun K hK => ?_)
  have hs63 : w60.cell? ⟨gb304,0,none⟩ = some (.int .u64 0):=(blk_cell BK304.out 0).trans rfl
  have hfs63:=blk_frozen BK304.out 0
  have hns63_0:=NB302_304.out
  have hns63_1:=NB303_304.out
  have hns63_3:=NB310_304.out
  have hns63_4:=NB314_304.out
  have hms63_0:=NB304_302.out
  have hms63_1:=NB304_303.out
  have hms63_3:=NB304_310.out
  have hms63_4:=NB304_314.out
  have hs64 : w60.cell? ⟨gb304,1,none⟩ = some (.int .u64 0):=(blk_cell BK304.out 1).trans rfl
  have hfs64:=blk_frozen BK304.out 1
  have hns64_0:=NB302_304.out
  have hns64_1:=NB303_304.out
  have hns64_3:=NB310_304.out
  have hns64_4:=NB314_304.out
  have hms64_0:=NB304_302.out
  have hms64_1:=NB304_303.out
  have hms64_3:=NB304_310.out
  have hms64_4:=NB304_314.out
  refine skip_ (w1:=?_) (by rfl) rfl ?_ ?_
  rotate_left
  ·go_simp
   rfl
  refine hK.out _ _ ⟨((cell_far (p:=⟨gb304,_,none⟩) NB314_304.out _).trans (((cell_far (p:=⟨gb304,_,none⟩) NB314_304.out _).trans (hHeld.1)))),((cell_far (p:=⟨gb304,_,none⟩) NB314_304.out _).trans (((cell_far (p:=⟨gb304,_,none⟩) NB314_304.out _).trans (hHeld.2.1)))),((cell_far (p:=⟨gb304,_,none⟩) NB310_304.out _).trans (((cell_far (p:=⟨gb304,_,none⟩) NB310_304.out _).trans (hHeld.2.2.1)))),((cell_far (p:=⟨gb304,_,none⟩) NB310_304.out _).trans (((cell_far (p:=⟨gb304,_,none⟩) NB310_304.out _).trans (hHeld.2.2.2))))⟩ (fun hHeld => ?_)
  clear hK K
  refine done_ (by kernel_rfl) ?_
  try go_wp2
  refine bodyPost_ret (results_cc rfl _ _ gb303 gb304 40 40 #[.int .u64 t324,.int .u64 t325] #[.int .u64 t308,.int .u64 t309] (0,0) (0,0) _ _ rfl (by (with_reducible repeat (first | refine b1 ?_ _ | refine b2 ?_ | refine b3 ?_ _));refine blk_far ?_ NB303_304.out _;(with_reducible repeat (first | refine b1 ?_ _ | refine b2 ?_ | refine b3 ?_ _));refine blk_far ?_ NB303_304.out _;(with_reducible repeat (first | refine b1 ?_ _ | refine b2 ?_ | refine b3 ?_ _));refine blk_put (cs:=#[.int .u64 t324,.int .u64 0]) ?_ 1 _ rfl;(with_reducible repeat (first | refine b1 ?_ _ | refine b2 ?_ | refine b3 ?_ _));refine blk_put (cs:=#[.int .u64 0,.int .u64 0]) ?_ 0 _ rfl;exact kA) Tryd.underlying40 rfl (by kernel_rfl) rfl (by (with_reducible repeat (first | refine b1 ?_ _ | refine b2 ?_ | refine b3 ?_ _));refine blk_put (cs:=#[.int .u64 t308,.int .u64 0]) ?_ 1 _ rfl;(with_reducible repeat (first | refine b1 ?_ _ | refine b2 ?_ | refine b3 ?_ _));refine blk_put (cs:=#[.int .u64 0,.int .u64 0]) ?_ 0 _ rfl;(with_reducible repeat (first | refine b1 ?_ _ | refine b2 ?_ | refine b3 ?_ _));refine blk_far ?_ NB304_303.out _;(with_reducible repeat (first | refine b1 ?_ _ | refine b2 ?_ | refine b3 ?_ _));refine blk_far ?_ NB304_303.out _;exact kA) Tryd.underlying40 rfl (by kernel_rfl)) rfl ?_
  exact ⟨by first | rfl | (simp [errW_none,errW_some] <;> rfl) | (simp [*,errW_none,errW_some] <;> rfl),bA⟩

def backfillref11_lead.f (a0_0 : Int) (a0_1 : Int) (a0_2 : Int) (a0_3 : Int) (a0_4 : Int) (a0_5 : Int) (a0_6 : Int) (a0_7 : Int) : Option (Int):=if a0_3 = 0 then (none) else (some (wrap64 (Int.tdiv (wrap64 (a0_4 + (wrap64 (a0_5 * a0_0)))) a0_3)))
set_option maxHeartbeats 8000000 in
set_option maxRecDepth 100000 in
theorem backfillref11_lead.calls (a0_0 : Int) (a0_1 : Int) (a0_2 : Int) (a0_3 : Int) (a0_4 : Int) (a0_5 : Int) (a0_6 : Int) (a0_7 : Int) (r : Int) (w : World) (h : backfillref11_lead.f a0_0 a0_1 a0_2 a0_3 a0_4 a0_5 a0_6 a0_7 = some r) :
  Calls Tryd.prog 55 #[.agg #[.int .i64 a0_0,.int .i64 a0_1,.int .i64 a0_2,.int .i64 a0_3,.int .i64 a0_4,.int .i64 a0_5,.int .i64 a0_6,.int .i64 a0_7]] w fun e w' => e = .returned (.int .i64 r) ∧ Below w.heap.size w w':=by
 have hu23:=Tryd.underlying23
 have HB:=Am (Below.refl w.heap.size w)
 have H : (if a0_3 = 0 then (none) else (some (wrap64 (Int.tdiv (wrap64 (a0_4 + (wrap64 (a0_5 * a0_0)))) a0_3)))) = some r:=h
 clear h
 by_cases c2 : a0_3 = 0
 ·rw [if_pos c2] at H
  exact absurd H (by simp)
 ·rw [if_neg c2] at H
  have c2b0 : (a0_3 == 0) = false:=beq_eq_false_iff_ne.mpr c2
  have c2b1 : (a0_3 != 0) = true:=bne_iff_ne.mpr c2
  obtain rfl:=Option.some.inj H
  go_enter Tryd.func55,Tryd.ntmps55
  go_wp2_with (first | ((with_reducible refine gate_dst (N:=1) rfl ?_);refine bxA 1 #[.int .i64 a0_0,.int .i64 a0_1,.int .i64 a0_2,.int .i64 a0_3,.int .i64 a0_4,.int .i64 a0_5,.int .i64 a0_6,.int .i64 a0_7] 23 ?_;intro gb327 hg w3 hbox hb;have n0_:=Am (below_step bA hb);have n1_:=Am (hbox);have n2_:=Am (gwA hg bA);have n3_:=Am (gwA hg bA);clear HB;have HB:=n0_;have BK327:=n1_;have GW327:=n2_;have GE327:=n3_;clear n0_ n1_ n2_ n3_ hb hbox hg;have hcz4_0 : w3.cell? ⟨gb327,0,none⟩ = some (.int .i64 a0_0):=(blk_cell BK327.out 0).trans rfl;have hcz4_1 : w3.cell? ⟨gb327,1,none⟩ = some (.int .i64 a0_1):=(blk_cell BK327.out 1).trans rfl;have hcz4_2 : w3.cell? ⟨gb327,2,none⟩ = some (.int .i64 a0_2):=(blk_cell BK327.out 2).trans rfl;have hcz4_3 : w3.cell? ⟨gb327,3,none⟩ = some (.int .i64 a0_3):=(blk_cell BK327.out 3).trans rfl;have hcz4_4 : w3.cell? ⟨gb327,4,none⟩ = some (.int .i64 a0_4):=(blk_cell BK327.out 4).trans rfl;have hcz4_5 : w3.cell? ⟨gb327,5,none⟩ = some (.int .i64 a0_5):=(blk_cell BK327.out 5).trans rfl;have hcz4_6 : w3.cell? ⟨gb327,6,none⟩ = some (.int .i64 a0_6):=(blk_cell BK327.out 6).trans rfl;have hcz4_7 : w3.cell? ⟨gb327,7,none⟩ = some (.int .i64 a0_7):=(blk_cell BK327.out 7).trans rfl;have hfz4_0:=blk_frozen BK327.out 0;have hfz4_1:=blk_frozen BK327.out 1;have hfz4_2:=blk_frozen BK327.out 2;have hfz4_3:=blk_frozen BK327.out 3;have hfz4_4:=blk_frozen BK327.out 4;have hfz4_5:=blk_frozen BK327.out 5;have hfz4_6:=blk_frozen BK327.out 6;have hfz4_7:=blk_frozen BK327.out 7))
  go_ret
  exact ⟨by first | rfl | (simp [errW_none,errW_some] <;> rfl) | (simp [*,errW_none,errW_some] <;> rfl),bA⟩

def backfillref11_bound.f (a0_0 : Int) (a0_1 : Int) (a0_2 : Int) (a0_3 : Int) (a0_4 : Int) (a0_5 : Int) (a0_6 : Int) (a0_7 : Int) : Option (Int):=(backfillref11_lead.f a0_0 a0_1 a0_2 a0_3 a0_4 a0_5 a0_6 a0_7).bind fun t329 => (some (wrap64 ((wrap64 (t329 + 1)) + (wrap64 (a0_1 * a0_2)))))
def backfillref11_bound.T1 : Bool × List (List Nat × List Nat):=(true,[([],[]),([0],[0]),([1],[1]),([],[]),([3],[3]),([],[]),([5],[5]),([4,6],[4,6]),([2,7],[2,7]),([8,1,0,1,2,3,4,5,6,7,8],[8])])
def backfillref11_bound.B1 : List Nat:=[0,1,3,0,8,0,32,120,255,511]
theorem backfillref11_bound.tab1 : rtab .any (opsOf Tryd.f31 1) = backfillref11_bound.T1:=by kernel_rfl
theorem backfillref11_bound.bits1 : waitsOk backfillref11_bound.T1.2 backfillref11_bound.B1 = true:=by kernel_rfl
set_option maxHeartbeats 8000000 in
set_option maxRecDepth 100000 in
theorem backfillref11_bound.calls (a0_0 : Int) (a0_1 : Int) (a0_2 : Int) (a0_3 : Int) (a0_4 : Int) (a0_5 : Int) (a0_6 : Int) (a0_7 : Int) (r : Int) (w : World) (h : backfillref11_bound.f a0_0 a0_1 a0_2 a0_3 a0_4 a0_5 a0_6 a0_7 = some r) :
  Calls Tryd.prog 31 #[.agg #[.int .i64 a0_0,.int .i64 a0_1,.int .i64 a0_2,.int .i64 a0_3,.int .i64 a0_4,.int .i64 a0_5,.int .i64 a0_6,.int .i64 a0_7]] w fun e w' => e = .returned (.int .i64 r) ∧ Below w.heap.size w w':=by
 have hu23:=Tryd.underlying23
 have HB:=Am (Below.refl w.heap.size w)
 have H : ((backfillref11_lead.f a0_0 a0_1 a0_2 a0_3 a0_4 a0_5 a0_6 a0_7).bind fun t329 => (some (wrap64 ((wrap64 (t329 + 1)) + (wrap64 (a0_1 * a0_2)))))) = some r:=h
 clear h;replace H:=Option.bind_eq_some_iff.mp H;obtain ⟨t329,A20,H⟩:=H;replace H : (some (wrap64 ((wrap64 (t329 + 1)) + (wrap64 (a0_1 * a0_2))))) = some r:=H;have A2:=Aside0.mk A20;clear A20
 obtain rfl:=Option.some.inj H
 go_enter Tryd.func31,Tryd.ntmps31
 try go_wp2_with (first | ((with_reducible refine gate_dst (N:=1) rfl ?_);refine bxA 1 #[.int .i64 a0_0,.int .i64 a0_1,.int .i64 a0_2,.int .i64 a0_3,.int .i64 a0_4,.int .i64 a0_5,.int .i64 a0_6,.int .i64 a0_7] 23 ?_;intro gb328 hg w3 hbox hb;have n0_:=Am (below_step bA hb);have n1_:=Am (hbox);have n2_:=Am (gwA hg bA);have n3_:=Am (gwA hg bA);clear HB;have HB:=n0_;have BK328:=n1_;have GW328:=n2_;have GE328:=n3_;clear n0_ n1_ n2_ n3_ hb hbox hg))
 have n0_:=Am (blk_drew BK328.out);have n1_:=Am (below_drew1 HB.out);clear BK328 HB;have BK328:=n0_;have HB:=n1_;clear n0_ n1_
 refine start_ (n:=10) (S:=fun w' => w'.cell? ⟨gb328,0,none⟩ = some (.int .i64 a0_0) ∧ w'.cell? ⟨gb328,1,none⟩ = some (.int .i64 a0_1) ∧ w'.cell? ⟨gb328,2,none⟩ = some (.int .i64 a0_2) ∧ w'.cell? ⟨gb328,3,none⟩ = some (.int .i64 a0_3) ∧ w'.cell? ⟨gb328,4,none⟩ = some (.int .i64 a0_4) ∧ w'.cell? ⟨gb328,5,none⟩ = some (.int .i64 a0_5) ∧ w'.cell? ⟨gb328,6,none⟩ = some (.int .i64 a0_6) ∧ w'.cell? ⟨gb328,7,none⟩ = some (.int .i64 a0_7)) (ds:=[]) #[nn,nn,nn,nn,nn,nn,nn,nn,nn,nn] (by kernel_rfl) rfl rfl ⟨(blk_cell BK328.out 0).trans rfl,(blk_cell BK328.out 1).trans rfl,(blk_cell BK328.out 2).trans rfl,(blk_cell BK328.out 3).trans rfl,(blk_cell BK328.out 4).trans rfl,(blk_cell BK328.out 5).trans rfl,(blk_cell BK328.out 6).trans rfl,(blk_cell BK328.out 7).trans rfl⟩ (fun hHeld => ?_);refine with_tabW backfillref11_bound.tab1 backfillref11_bound.bits1 (fun HT_ HW_ => ?_)
 generalize w3.drew = w4 at BK328 HB hHeld ⊢
 refine pure_ (i:=3) (N:=some 6) (v:=?_) (a':=?_) #[nn,nn,nn,yy,nn,nn,nn,nn,nn,nn] rfl rfl (any_of HT_.out (by kernel_rfl)) (fun _ _ _ h => h) (Or.inl ⟨by rfl,?_⟩) ?_ ?_
 rotate_left
 ·intro w'
  go_simp;with_reducible rfl
 rotate_left
 ·simp only [NR]
  rfl
 refine pure_ (i:=5) (N:=some 8) (v:=?_) (a':=?_) #[nn,nn,nn,yy,nn,yy,nn,nn,nn,nn] rfl rfl (any_of HT_.out (by kernel_rfl)) (fun _ _ _ h => h) (Or.inl ⟨by rfl,?_⟩) ?_ ?_
 rotate_left
 ·intro w'
  go_simp;with_reducible rfl
 rotate_left
 ·simp only [NR]
  rfl
 refine take_ (i:=0) (N:=some 3) (v:=?_) (a':=?_) #[yy,nn,nn,yy,nn,yy,nn,nn,nn,nn] rfl rfl (take_ofW HT_.out HW_.out (by kernel_rfl)) (fun _ _ _ h => h) (Or.inl ⟨by rfl,?_⟩) hHeld ?_ ?_
 rotate_left
 ·rintro w' ⟨s0,s1,s2,s3,s4,s5,s6,s7⟩
  go_simp;with_reducible rfl
 rotate_left
 ·simp only [NR]
  rfl
 refine take_ (i:=4) (N:=some 7) (v:=?_) (a':=?_) #[yy,nn,nn,yy,yy,yy,nn,nn,nn,nn] rfl rfl (take_ofW HT_.out HW_.out (by kernel_rfl)) (fun _ _ _ h => h) (Or.inl ⟨by rfl,?_⟩) hHeld ?_ ?_
 rotate_left
 ·rintro w' ⟨s0,s1,s2,s3,s4,s5,s6,s7⟩
  go_simp;with_reducible rfl
 rotate_left
 ·simp only [NR]
  rfl
 refine take_ (i:=6) (N:=some 9) (v:=?_) (a':=?_) #[yy,nn,nn,yy,yy,yy,yy,nn,nn,nn] rfl rfl (take_ofW HT_.out HW_.out (by kernel_rfl)) (fun _ _ _ h => h) (Or.inl ⟨by rfl,?_⟩) hHeld ?_ ?_
 rotate_left
 ·rintro w' ⟨s0,s1,s2,s3,s4,s5,s6,s7⟩
  go_simp;with_reducible rfl
 rotate_left
 ·simp only [NR]
  rfl
 refine pure_ (i:=7) (N:=some 10) (v:=?_) (a':=?_) #[yy,nn,nn,yy,yy,yy,yy,yy,nn,nn] rfl rfl (any_of HT_.out (by kernel_rfl)) (fun _ _ _ h => h) (Or.inl ⟨by rfl,?_⟩) ?_ ?_
 rotate_left
 ·intro w'
  go_simp;with_reducible rfl
 rotate_left
 ·simp only [NR]
  rfl
 refine one_ (i:=1) (N:=some 4) #[yy,yy,nn,yy,yy,yy,yy,yy,nn,nn] rfl rfl (one_of HT_.out (by kernel_rfl)) (by decide) (fun K hK => ?_)
 refine goes_ Tryd.func55 (by kernel_rfl) rfl #[.agg #[.int .i64 a0_0,.int .i64 a0_1,.int .i64 a0_2,.int .i64 a0_3,.int .i64 a0_4,.int .i64 a0_5,.int .i64 a0_6,.int .i64 a0_7]] (by rfl) rfl rfl aA ?_
 with_reducible refine (backfillref11_lead.calls a0_0 a0_1 a0_2 a0_3 a0_4 a0_5 a0_6 a0_7 t329 _ A2.out).mono ?_
 rintro e w5 ⟨rfl,hb⟩
 refine ⟨_,rfl,?_⟩;have n0_:=Am (blk_below (g:=gb328) kA hb);have n1_:=Am (below_step bA hb);clear BK328 HB;have BK328:=n0_;have HB:=n1_;clear n0_ n1_;(try clear hb)
 refine hK.out _ _ ⟨(blk_cell BK328.out 0).trans rfl,(blk_cell BK328.out 1).trans rfl,(blk_cell BK328.out 2).trans rfl,(blk_cell BK328.out 3).trans rfl,(blk_cell BK328.out 4).trans rfl,(blk_cell BK328.out 5).trans rfl,(blk_cell BK328.out 6).trans rfl,(blk_cell BK328.out 7).trans rfl⟩ (fun hHeld => ?_)
 clear hK K
 refine norm_ (a':=?_) ?_ ?_
 rotate_left
 ·show Act.put _ (some 4) _ = _
  simp only [NR]
  rfl
 refine pure_ (i:=2) (N:=some 5) (v:=?_) (a':=?_) #[yy,yy,yy,yy,yy,yy,yy,yy,nn,nn] rfl rfl (any_of HT_.out (by kernel_rfl)) (fun _ _ _ h => h) (Or.inl ⟨by rfl,?_⟩) ?_ ?_
 rotate_left
 ·intro w'
  go_simp;with_reducible rfl
 rotate_left
 ·simp only [NR]
  rfl
 refine pure_ (i:=8) (N:=some 11) (v:=?_) (a':=?_) #[yy,yy,yy,yy,yy,yy,yy,yy,yy,nn] rfl rfl (any_of HT_.out (by kernel_rfl)) (fun _ _ _ h => h) (Or.inl ⟨by rfl,?_⟩) ?_ ?_
 rotate_left
 ·intro w'
  go_simp;with_reducible rfl
 rotate_left
 ·simp only [NR]
  rfl
 refine pure_ (i:=9) (N:=some 2) (v:=?_) (a':=?_) #[yy,yy,yy,yy,yy,yy,yy,yy,yy,yy] rfl rfl (any_of HT_.out (by kernel_rfl)) (fun _ _ _ h => h) (Or.inl ⟨by rfl,?_⟩) ?_ ?_
 rotate_left
 ·intro w'
  go_simp;with_reducible rfl
 rotate_left
 ·simp only [NR]
  rfl
 refine done_ (done_of HT_.out (by kernel_rfl)) ?_
 try go_wp2
 go_ret
 exact ⟨by first | rfl | (simp [errW_none,errW_some] <;> rfl) | (simp [*,errW_none,errW_some] <;> rfl),bA⟩

end Go.Proofs.YtbhijfbjdbjpbaaDoor.GSH
