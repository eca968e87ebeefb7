/- The texts of this claim, put together by program, what it does not name left out: part 5. Conditions: each theorem's own. -/
import Derived.Test.YtbhijfbjdbjpbaaGreatDoorZ4
set_option maxHeartbeats 8000000
set_option maxRecDepth 100000
namespace Go.Proofs.YtbhijfbjdbjpbaaGreatDoor.GSH
open Go.RowKit Go.Proofs.YtbhijfbjdbjpbaaGreatDoorW.PrintWords Go.Proofs.YtbhijfbjdbjpbaaGreatDoorW.PrintLast Go.Proofs.YtbhijfbjdbjpbaaGreatDoorW.PrintMore
attribute [local go_sem] max2_int min2_int max_two min_two max_three min_three max_four min_four   -- for this text's walks alone
set_option linter.unusedVariables false
set_option linter.unusedSimpArgs false
def backfillref11_ranges.j0 : Nat → Bool → Int → Int → Int → Int → Int → Int → Int → Int → Option (Bool)
 | 0,_,_,_,_,_,_,_,_,_ => none
 | k + 1,x3,x278000,x278001,x278002,x278003,x278004,x278005,x278006,x278007 => (backfillref11_within.f x278003 1 1048576).bind fun t281 => (if t281 = true then ((backfillref11_within.f x278004 0 1048576).bind fun t282 => (if t282 = true then ((backfillref11_within.f x278005 0 1048576).bind fun t283 => (if x3 = true then (if t283 = true then ((backfillref11_within.f x278006 1 1048576).bind fun t284 => (if t284 = true then ((backfillref11_within.f x278007 1 1073741824).bind fun t285 => (some t285)) else (some false))) else (some false)) else (some false))) else (if x3 = true then (some false) else (some false)))) else (if x3 = true then (some false) else (some false)))
def backfillref11_ranges.f (k : Nat) (a0_0 : Int) (a0_1 : Int) (a0_2 : Int) (a0_3 : Int) (a0_4 : Int) (a0_5 : Int) (a0_6 : Int) (a0_7 : Int) : Option (Bool):=(backfillref11_within.f a0_0 1 256).bind fun t278 => (if t278 = true then ((backfillref11_within.f a0_1 1 128).bind fun t279 => (if t279 = true then ((backfillref11_within.f a0_2 1 1048576).bind fun t280 => (backfillref11_ranges.j0 k t280 a0_0 a0_1 a0_2 a0_3 a0_4 a0_5 a0_6 a0_7)) else (backfillref11_ranges.j0 k false a0_0 a0_1 a0_2 a0_3 a0_4 a0_5 a0_6 a0_7))) else (backfillref11_ranges.j0 k false a0_0 a0_1 a0_2 a0_3 a0_4 a0_5 a0_6 a0_7))
theorem backfillref11_ranges.mono_l : ∀ k,(∀ y0 y1 y2 y3 y4 y5 y6 y7 y8,LeO (backfillref11_ranges.j0 k y0 y1 y2 y3 y4 y5 y6 y7 y8) (backfillref11_ranges.j0 (k + 1) y0 y1 y2 y3 y4 y5 y6 y7 y8))
 | 0 => fun _ _ _ _ _ _ _ _ _ r h => by simp [backfillref11_ranges.j0] at h
 | k + 1 => by
  have ih0:=backfillref11_ranges.mono_l k
  ·intro y0 y1 y2 y3 y4 y5 y6 y7 y8
   unfold backfillref11_ranges.j0
   repeat' first
   | (with_reducible exact ih0 _ _ _ _ _ _ _ _ _)
   | (with_reducible exact LeO.refl _)
   | (with_reducible exact LeO.none _)
   | (with_reducible refine LeO.ite ?_ ?_)
   | (with_reducible refine LeO.bind ?_ (fun _ => ?_))
   | exact ih0 _ _ _ _ _ _ _ _ _
   | exact LeO.none _
   | refine LeO.ite ?_ ?_
   | refine LeO.bind ?_ (fun _ => ?_)
theorem backfillref11_ranges.mono : ∀ a0 a1 a2 a3 a4 a5 a6 a7 k,LeO (backfillref11_ranges.f k a0 a1 a2 a3 a4 a5 a6 a7) (backfillref11_ranges.f (k + 1) a0 a1 a2 a3 a4 a5 a6 a7):=by
 intro a0 a1 a2 a3 a4 a5 a6 a7 k
 have ih0:=backfillref11_ranges.mono_l k
 unfold backfillref11_ranges.f
 repeat' first
   | (with_reducible exact ih0 _ _ _ _ _ _ _ _ _)
   | (with_reducible exact LeO.refl _)
   | (with_reducible exact LeO.none _)
   | (with_reducible refine LeO.ite ?_ ?_)
   | (with_reducible refine LeO.bind ?_ (fun _ => ?_))
   | exact ih0 _ _ _ _ _ _ _ _ _
   | exact LeO.none _
   | refine LeO.ite ?_ ?_
   | refine LeO.bind ?_ (fun _ => ?_)
theorem backfillref11_ranges.calls (k : Nat) (a0_0 : Int) (a0_1 : Int) (a0_2 : Int) (a0_3 : Int) (a0_4 : Int) (a0_5 : Int) (a0_6 : Int) (a0_7 : Int) (r : Bool) (w : World) (h : backfillref11_ranges.f k a0_0 a0_1 a0_2 a0_3 a0_4 a0_5 a0_6 a0_7 = some r) :
  Calls Tryz.prog 47 #[.agg #[.int .i64 a0_0,.int .i64 a0_1,.int .i64 a0_2,.int .i64 a0_3,.int .i64 a0_4,.int .i64 a0_5,.int .i64 a0_6,.int .i64 a0_7]] w fun e w' => e = .returned (.bool r) ∧ Below w.heap.size w w':=by
 have hu23:=Tryz.underlying23
 have HB:=Am (Below.refl w.heap.size w)
 have H : ((backfillref11_within.f a0_0 1 256).bind fun t278 => (if t278 = true then ((backfillref11_within.f a0_1 1 128).bind fun t279 => (if t279 = true then ((backfillref11_within.f a0_2 1 1048576).bind fun t280 => (backfillref11_ranges.j0 k t280 a0_0 a0_1 a0_2 a0_3 a0_4 a0_5 a0_6 a0_7)) else (backfillref11_ranges.j0 k false a0_0 a0_1 a0_2 a0_3 a0_4 a0_5 a0_6 a0_7))) else (backfillref11_ranges.j0 k false a0_0 a0_1 a0_2 a0_3 a0_4 a0_5 a0_6 a0_7))) = some r:=h
 clear h
 have HC2:=Aside0.mk H
 clear H
 go_enter Tryz.func47,Tryz.ntmps47
 go_upto_region 1 with (first | ((with_reducible refine gate_dst (N:=1) rfl ?_);refine bxA 1 #[.int .i64 a0_0,.int .i64 a0_1,.int .i64 a0_2,.int .i64 a0_3,.int .i64 a0_4,.int .i64 a0_5,.int .i64 a0_6,.int .i64 a0_7] 23 ?_;intro gb277 hg w3 hbox hb;have BK277:=Am (hbox);have GW277:=Am (gwA hg bA);have GE277:=Am (gwA hg bA);replace HB:=Am (below_step bA hb);clear hb hbox hg))
 (try simp only [Act.put,List.setIfInBounds_toArray,List.set_cons_zero,List.set_cons_succ])
 go_cut [3] (fun v3 wc => ∃ (kq : Nat) (x3_1 : Bool),v3 = .bool x3_1 ∧ Aside0 (backfillref11_ranges.j0 kq x3_1 a0_0 a0_1 a0_2 a0_3 a0_4 a0_5 a0_6 a0_7 = some r) ∧ Aside0 (kq ≤ k) ∧ Aside0 (wc.heap[gb277]? = some (.cells #[.int .i64 a0_0,.int .i64 a0_1,.int .i64 a0_2,.int .i64 a0_3,.int .i64 a0_4,.int .i64 a0_5,.int .i64 a0_6,.int .i64 a0_7] 23 (0,0))) ∧ Aside0 (Below w.heap.size w wc))
 case first =>
  have H:=HC2.out
  clear HC2;obtain ⟨t278,A4,H⟩:=bnd H;(try dsimp only at H)
  by_cases c5 : t278 = true
  ·subst c5
   have H1 : ((backfillref11_within.f a0_1 1 128).bind fun t279 => (if t279 = true then ((backfillref11_within.f a0_2 1 1048576).bind fun t280 => (backfillref11_ranges.j0 k t280 a0_0 a0_1 a0_2 a0_3 a0_4 a0_5 a0_6 a0_7)) else (backfillref11_ranges.j0 k false a0_0 a0_1 a0_2 a0_3 a0_4 a0_5 a0_6 a0_7))) = some r:=by rw [if_pos rfl] at H;exact H
   clear H
   have H:=H1
   clear H1;obtain ⟨t279,A6,H⟩:=bnd H;(try dsimp only at H)
   by_cases c7 : t279 = true
   ·subst c7
    have H1 : ((backfillref11_within.f a0_2 1 1048576).bind fun t280 => (backfillref11_ranges.j0 k t280 a0_0 a0_1 a0_2 a0_3 a0_4 a0_5 a0_6 a0_7)) = some r:=by rw [if_pos rfl] at H;exact H
    clear H
    have H:=H1
    clear H1;obtain ⟨t280,A8,H⟩:=bnd H;(try dsimp only at H)
    have H':=Aside0.mk H
    clear H
    obtain ⟨hcz9_0,hcz9_1,hcz9_2,hcz9_3,hcz9_4,hcz9_5,hcz9_6,hcz9_7,hfz9_0,hfz9_1,hfz9_2,hfz9_3,hfz9_4,hfz9_5,hfz9_6,hfz9_7⟩:=k8 BK277.out
    go_wp2_with (first | ((with_reducible refine gate_callee (f:=82) rfl ?_);refine goesL_ (some 7) rfl rfl Tryz.func82 (by kernel_rfl) rfl #[.int .i64 a0_0,.int .i64 1,.int .i64 256] rfl aA ?_;(with_reducible refine (backfillref11_within.calls a0_0 1 256 true _ A4.out).mono ?_);rintro e w' ⟨rfl,⟨nd,rfl⟩⟩;refine ⟨_,rfl,?_⟩) | (go_at_call 82;(with_reducible refine (backfillref11_within.calls a0_1 1 128 true _ A6.out).mono ?_);rintro e w' ⟨rfl,⟨nd,rfl⟩⟩) | (go_at_call 82;(with_reducible refine (backfillref11_within.calls a0_2 1 1048576 t280 _ A8.out).mono ?_);rintro e w' ⟨rfl,⟨nd,rfl⟩⟩))
    go_meet
    case rel => exact ⟨_,(t280),(by first | rfl | (simp;done) | (simp [*];done)),H',⟨by first | omega | exact Nat.le_refl _⟩,⟨by exact kA⟩,⟨bA⟩⟩
   ·replace c7:=Bool.eq_false_iff.mpr c7
    subst c7
    have H1 : (backfillref11_ranges.j0 k false a0_0 a0_1 a0_2 a0_3 a0_4 a0_5 a0_6 a0_7) = some r:=by rw [if_neg (show ¬ (false = true) by decide)] at H;exact H
    clear H
    have H:=H1
    clear H1
    have H':=Aside0.mk H
    clear H
    obtain ⟨hcz10_0,hcz10_1,hcz10_2,hcz10_3,hcz10_4,hcz10_5,hcz10_6,hcz10_7,hfz10_0,hfz10_1,hfz10_2,hfz10_3,hfz10_4,hfz10_5,hfz10_6,hfz10_7⟩:=k8 BK277.out
    go_wp2_with (first | ((with_reducible refine gate_callee (f:=82) rfl ?_);refine goesL_ (some 7) rfl rfl Tryz.func82 (by kernel_rfl) rfl #[.int .i64 a0_0,.int .i64 1,.int .i64 256] rfl aA ?_;(with_reducible refine (backfillref11_within.calls a0_0 1 256 true _ A4.out).mono ?_);rintro e w' ⟨rfl,⟨nd,rfl⟩⟩;refine ⟨_,rfl,?_⟩) | (go_at_call 82;(with_reducible refine (backfillref11_within.calls a0_1 1 128 false _ A6.out).mono ?_);rintro e w' ⟨rfl,⟨nd,rfl⟩⟩))
    go_meet
    case rel => exact ⟨_,(false),(by first | rfl | (simp;done) | (simp [*];done)),H',⟨by first | omega | exact Nat.le_refl _⟩,⟨by exact kA⟩,⟨bA⟩⟩
  ·replace c5:=Bool.eq_false_iff.mpr c5
   subst c5
   have H1 : (backfillref11_ranges.j0 k false a0_0 a0_1 a0_2 a0_3 a0_4 a0_5 a0_6 a0_7) = some r:=by rw [if_neg (show ¬ (false = true) by decide)] at H;exact H
   clear H
   have H:=H1
   clear H1
   have H':=Aside0.mk H
   clear H
   obtain ⟨hcz11_0,hcz11_1,hcz11_2,hcz11_3,hcz11_4,hcz11_5,hcz11_6,hcz11_7,hfz11_0,hfz11_1,hfz11_2,hfz11_3,hfz11_4,hfz11_5,hfz11_6,hfz11_7⟩:=k8 BK277.out
   go_wp2_with (first | ((with_reducible refine gate_callee (f:=82) rfl ?_);refine goesL_ (some 7) rfl rfl Tryz.func82 (by kernel_rfl) rfl #[.int .i64 a0_0,.int .i64 1,.int .i64 256] rfl aA ?_;(with_reducible refine (backfillref11_within.calls a0_0 1 256 false _ A4.out).mono ?_);rintro e w' ⟨rfl,⟨nd,rfl⟩⟩;refine ⟨_,rfl,?_⟩))
   go_meet
   case rel => exact ⟨_,(false),(by first | rfl | (simp;done) | (simp [*];done)),H',⟨by first | omega | exact Nat.le_refl _⟩,⟨by exact kA⟩,⟨bA⟩⟩
 case rest =>
  clear HC2
  try clear p2
  try clear c4
  try clear c5
  try clear c7
  try clear c8
  try clear hcz10_0
  try clear hcz10_1
  try clear hcz10_2
  try clear hcz10_3
  try clear hcz10_4
  try clear hcz10_5
  try clear hcz10_6
  try clear hcz10_7
  try clear hcz11_0
  try clear hcz11_1
  try clear hcz11_2
  try clear hcz11_3
  try clear hcz11_4
  try clear hcz11_5
  try clear hcz11_6
  try clear hcz11_7
  try clear hcz9_0
  try clear hcz9_1
  try clear hcz9_2
  try clear hcz9_3
  try clear hcz9_4
  try clear hcz9_5
  try clear hcz9_6
  try clear hcz9_7
  try clear hfz10_0
  try clear hfz10_1
  try clear hfz10_2
  try clear hfz10_3
  try clear hfz10_4
  try clear hfz10_5
  try clear hfz10_6
  try clear hfz10_7
  try clear hfz11_0
  try clear hfz11_1
  try clear hfz11_2
  try clear hfz11_3
  try clear hfz11_4
  try clear hfz11_5
  try clear hfz11_6
  try clear hfz11_7
  try clear hfz9_0
  try clear hfz9_1
  try clear hfz9_2
  try clear hfz9_3
  try clear hfz9_4
  try clear hfz9_5
  try clear hfz9_6
  try clear hfz9_7
  obtain ⟨kq,x3_1,rfl,HA,HJ1,BK277,HB⟩:=hcut
  cases kq with
  | zero => exact absurd HA.out (by simp [backfillref11_ranges.j0])
  | succ kj1 =>
   have H:=HA.out
   clear HA
   simp only [backfillref11_ranges.j0] at H
   obtain ⟨t281,A12,H⟩:=bnd H;(try dsimp only at H)
   by_cases c13 : t281 = true
   ·subst c13
    have H1 : ((backfillref11_within.f a0_4 0 1048576).bind fun t282 => (if t282 = true then ((backfillref11_within.f a0_5 0 1048576).bind fun t283 => (if x3_1 = true then (if t283 = true then ((backfillref11_within.f a0_6 1 1048576).bind fun t284 => (if t284 = true then ((backfillref11_within.f a0_7 1 1073741824).bind fun t285 => (some t285)) else (some false))) else (some false)) else (some false))) else (if x3_1 = true then (some false) else (some false)))) = some r:=by rw [if_pos rfl] at H;exact H
    clear H
    have H:=H1
    clear H1;obtain ⟨t282,A14,H⟩:=bnd H;(try dsimp only at H)
    by_cases c15 : t282 = true
    ·subst c15
     have H1 : ((backfillref11_within.f a0_5 0 1048576).bind fun t283 => (if x3_1 = true then (if t283 = true then ((backfillref11_within.f a0_6 1 1048576).bind fun t284 => (if t284 = true then ((backfillref11_within.f a0_7 1 1073741824).bind fun t285 => (some t285)) else (some false))) else (some false)) else (some false))) = some r:=by rw [if_pos rfl] at H;exact H
     clear H
     have H:=H1
     clear H1;obtain ⟨t283,A16,H⟩:=bnd H;(try dsimp only at H)
     by_cases c17 : x3_1 = true
     ·subst c17
      have H1 : (if t283 = true then ((backfillref11_within.f a0_6 1 1048576).bind fun t284 => (if t284 = true then ((backfillref11_within.f a0_7 1 1073741824).bind fun t285 => (some t285)) else (some false))) else (some false)) = some r:=by rw [if_pos rfl] at H;exact H
      clear H
      have H:=H1
      clear H1
      by_cases c18 : t283 = true
      ·subst c18
       have H1 : ((backfillref11_within.f a0_6 1 1048576).bind fun t284 => (if t284 = true then ((backfillref11_within.f a0_7 1 1073741824).bind fun t285 => (some t285)) else (some false))) = some r:=by rw [if_pos rfl] at H;exact H
       clear H
       have H:=H1
       clear H1;obtain ⟨t284,A19,H⟩:=bnd H;(try dsimp only at H)
       by_cases c20 : t284 = true
       ·subst c20
        have H1 : ((backfillref11_within.f a0_7 1 1073741824).bind fun t285 => (some t285)) = some r:=by rw [if_pos rfl] at H;exact H
        clear H
        have H:=H1
        clear H1;obtain ⟨t285,A21,H⟩:=bnd H;(try dsimp only at H)
        obtain rfl:=Option.some.inj H
        obtain ⟨hcz22_0,hcz22_1,hcz22_2,hcz22_3,hcz22_4,hcz22_5,hcz22_6,hcz22_7,hfz22_0,hfz22_1,hfz22_2,hfz22_3,hfz22_4,hfz22_5,hfz22_6,hfz22_7⟩:=k8 BK277.out
        go_wp2_with (first | ((with_reducible refine gate_callee (f:=82) rfl ?_);refine goesL_ (some 20) rfl rfl Tryz.func82 (by kernel_rfl) rfl #[.int .i64 a0_3,.int .i64 1,.int .i64 1048576] rfl aA ?_;(with_reducible refine (backfillref11_within.calls a0_3 1 1048576 true _ A12.out).mono ?_);rintro e w' ⟨rfl,⟨nd,rfl⟩⟩;refine ⟨_,rfl,?_⟩) | (go_at_call 82;(with_reducible refine (backfillref11_within.calls a0_4 0 1048576 true _ A14.out).mono ?_);rintro e w' ⟨rfl,⟨nd,rfl⟩⟩) | (go_at_call 82;(with_reducible refine (backfillref11_within.calls a0_5 0 1048576 true _ A16.out).mono ?_);rintro e w' ⟨rfl,⟨nd,rfl⟩⟩) | (go_at_call 82;(with_reducible refine (backfillref11_within.calls a0_6 1 1048576 true _ A19.out).mono ?_);rintro e w' ⟨rfl,⟨nd,rfl⟩⟩) | (go_at_call 82;(with_reducible refine (backfillref11_within.calls a0_7 1 1073741824 t285 _ A21.out).mono ?_);rintro e w' ⟨rfl,⟨nd,rfl⟩⟩))
        go_ret
        exact eA
       ·replace c20:=Bool.eq_false_iff.mpr c20
        subst c20
        have H1 : (some false) = some r:=by rw [if_neg (show ¬ (false = true) by decide)] at H;exact H
        clear H
        have H:=H1
        clear H1
        obtain rfl:=Option.some.inj H
        obtain ⟨hcz23_0,hcz23_1,hcz23_2,hcz23_3,hcz23_4,hcz23_5,hcz23_6,hcz23_7,hfz23_0,hfz23_1,hfz23_2,hfz23_3,hfz23_4,hfz23_5,hfz23_6,hfz23_7⟩:=k8 BK277.out
        go_wp2_with (first | ((with_reducible refine gate_callee (f:=82) rfl ?_);refine goesL_ (some 20) rfl rfl Tryz.func82 (by kernel_rfl) rfl #[.int .i64 a0_3,.int .i64 1,.int .i64 1048576] rfl aA ?_;(with_reducible refine (backfillref11_within.calls a0_3 1 1048576 true _ A12.out).mono ?_);rintro e w' ⟨rfl,⟨nd,rfl⟩⟩;refine ⟨_,rfl,?_⟩) | (go_at_call 82;(with_reducible refine (backfillref11_within.calls a0_4 0 1048576 true _ A14.out).mono ?_);rintro e w' ⟨rfl,⟨nd,rfl⟩⟩) | (go_at_call 82;(with_reducible refine (backfillref11_within.calls a0_5 0 1048576 true _ A16.out).mono ?_);rintro e w' ⟨rfl,⟨nd,rfl⟩⟩) | (go_at_call 82;(with_reducible refine (backfillref11_within.calls a0_6 1 1048576 false _ A19.out).mono ?_);rintro e w' ⟨rfl,⟨nd,rfl⟩⟩))
        go_ret
        exact eA
      ·replace c18:=Bool.eq_false_iff.mpr c18
       subst c18
       have H1 : (some false) = some r:=by rw [if_neg (show ¬ (false = true) by decide)] at H;exact H
       clear H
       have H:=H1
       clear H1
       obtain rfl:=Option.some.inj H
       obtain ⟨hcz24_0,hcz24_1,hcz24_2,hcz24_3,hcz24_4,hcz24_5,hcz24_6,hcz24_7,hfz24_0,hfz24_1,hfz24_2,hfz24_3,hfz24_4,hfz24_5,hfz24_6,hfz24_7⟩:=k8 BK277.out
       go_wp2_with (first | ((with_reducible refine gate_callee (f:=82) rfl ?_);refine goesL_ (some 20) rfl rfl Tryz.func82 (by kernel_rfl) rfl #[.int .i64 a0_3,.int .i64 1,.int .i64 1048576] rfl aA ?_;(with_reducible refine (backfillref11_within.calls a0_3 1 1048576 true _ A12.out).mono ?_);rintro e w' ⟨rfl,⟨nd,rfl⟩⟩;refine ⟨_,rfl,?_⟩) | (go_at_call 82;(with_reducible refine (backfillref11_within.calls a0_4 0 1048576 true _ A14.out).mono ?_);rintro e w' ⟨rfl,⟨nd,rfl⟩⟩) | (go_at_call 82;(with_reducible refine (backfillref11_within.calls a0_5 0 1048576 false _ A16.out).mono ?_);rintro e w' ⟨rfl,⟨nd,rfl⟩⟩))
       go_ret
       exact eA
     ·replace c17:=Bool.eq_false_iff.mpr c17
      subst c17
      have H1 : (some false) = some r:=by rw [if_neg (show ¬ (false = true) by decide)] at H;exact H
      clear H
      have H:=H1
      clear H1
      obtain rfl:=Option.some.inj H
      obtain ⟨hcz25_0,hcz25_1,hcz25_2,hcz25_3,hcz25_4,hcz25_5,hcz25_6,hcz25_7,hfz25_0,hfz25_1,hfz25_2,hfz25_3,hfz25_4,hfz25_5,hfz25_6,hfz25_7⟩:=k8 BK277.out
      go_wp2_with (first | ((with_reducible refine gate_callee (f:=82) rfl ?_);refine goesL_ (some 20) rfl rfl Tryz.func82 (by kernel_rfl) rfl #[.int .i64 a0_3,.int .i64 1,.int .i64 1048576] rfl aA ?_;(with_reducible refine (backfillref11_within.calls a0_3 1 1048576 true _ A12.out).mono ?_);rintro e w' ⟨rfl,⟨nd,rfl⟩⟩;refine ⟨_,rfl,?_⟩) | (go_at_call 82;(with_reducible refine (backfillref11_within.calls a0_4 0 1048576 true _ A14.out).mono ?_);rintro e w' ⟨rfl,⟨nd,rfl⟩⟩) | (go_at_call 82;(with_reducible refine (backfillref11_within.calls a0_5 0 1048576 t283 _ A16.out).mono ?_);rintro e w' ⟨rfl,⟨nd,rfl⟩⟩))
      go_ret
      exact eA
    ·replace c15:=Bool.eq_false_iff.mpr c15
     subst c15
     have H1 : (if x3_1 = true then (some false) else (some false)) = some r:=by rw [if_neg (show ¬ (false = true) by decide)] at H;exact H
     clear H
     have H:=H1
     clear H1
     by_cases c26 : x3_1 = true
     ·subst c26
      have H1 : (some false) = some r:=by rw [if_pos rfl] at H;exact H
      clear H
      have H:=H1
      clear H1
      obtain rfl:=Option.some.inj H
      obtain ⟨hcz27_0,hcz27_1,hcz27_2,hcz27_3,hcz27_4,hcz27_5,hcz27_6,hcz27_7,hfz27_0,hfz27_1,hfz27_2,hfz27_3,hfz27_4,hfz27_5,hfz27_6,hfz27_7⟩:=k8 BK277.out
      go_wp2_with (first | ((with_reducible refine gate_callee (f:=82) rfl ?_);refine goesL_ (some 20) rfl rfl Tryz.func82 (by kernel_rfl) rfl #[.int .i64 a0_3,.int .i64 1,.int .i64 1048576] rfl aA ?_;(with_reducible refine (backfillref11_within.calls a0_3 1 1048576 true _ A12.out).mono ?_);rintro e w' ⟨rfl,⟨nd,rfl⟩⟩;refine ⟨_,rfl,?_⟩) | (go_at_call 82;(with_reducible refine (backfillref11_within.calls a0_4 0 1048576 false _ A14.out).mono ?_);rintro e w' ⟨rfl,⟨nd,rfl⟩⟩))
      go_ret
      exact eA
     ·replace c26:=Bool.eq_false_iff.mpr c26
      subst c26
      have H1 : (some false) = some r:=by rw [if_neg (show ¬ (false = true) by decide)] at H;exact H
      clear H
      have H:=H1
      clear H1
      obtain rfl:=Option.some.inj H
      obtain ⟨hcz28_0,hcz28_1,hcz28_2,hcz28_3,hcz28_4,hcz28_5,hcz28_6,hcz28_7,hfz28_0,hfz28_1,hfz28_2,hfz28_3,hfz28_4,hfz28_5,hfz28_6,hfz28_7⟩:=k8 BK277.out
      go_wp2_with (first | ((with_reducible refine gate_callee (f:=82) rfl ?_);refine goesL_ (some 20) rfl rfl Tryz.func82 (by kernel_rfl) rfl #[.int .i64 a0_3,.int .i64 1,.int .i64 1048576] rfl aA ?_;(with_reducible refine (backfillref11_within.calls a0_3 1 1048576 true _ A12.out).mono ?_);rintro e w' ⟨rfl,⟨nd,rfl⟩⟩;refine ⟨_,rfl,?_⟩) | (go_at_call 82;(with_reducible refine (backfillref11_within.calls a0_4 0 1048576 false _ A14.out).mono ?_);rintro e w' ⟨rfl,⟨nd,rfl⟩⟩))
      go_ret
      exact eA
   ·replace c13:=Bool.eq_false_iff.mpr c13
    subst c13
    have H1 : (if x3_1 = true then (some false) else (some false)) = some r:=by rw [if_neg (show ¬ (false = true) by decide)] at H;exact H
    clear H
    have H:=H1
    clear H1
    by_cases c29 : x3_1 = true
    ·subst c29
     have H1 : (some false) = some r:=by rw [if_pos rfl] at H;exact H
     clear H
     have H:=H1
     clear H1
     obtain rfl:=Option.some.inj H
     obtain ⟨hcz30_0,hcz30_1,hcz30_2,hcz30_3,hcz30_4,hcz30_5,hcz30_6,hcz30_7,hfz30_0,hfz30_1,hfz30_2,hfz30_3,hfz30_4,hfz30_5,hfz30_6,hfz30_7⟩:=k8 BK277.out
     go_wp2_with (first | ((with_reducible refine gate_callee (f:=82) rfl ?_);refine goesL_ (some 20) rfl rfl Tryz.func82 (by kernel_rfl) rfl #[.int .i64 a0_3,.int .i64 1,.int .i64 1048576] rfl aA ?_;(with_reducible refine (backfillref11_within.calls a0_3 1 1048576 false _ A12.out).mono ?_);rintro e w' ⟨rfl,⟨nd,rfl⟩⟩;refine ⟨_,rfl,?_⟩))
     go_ret
     exact eA
    ·replace c29:=Bool.eq_false_iff.mpr c29
     subst c29
     have H1 : (some false) = some r:=by rw [if_neg (show ¬ (false = true) by decide)] at H;exact H
     clear H
     have H:=H1
     clear H1
     obtain rfl:=Option.some.inj H
     obtain ⟨hcz31_0,hcz31_1,hcz31_2,hcz31_3,hcz31_4,hcz31_5,hcz31_6,hcz31_7,hfz31_0,hfz31_1,hfz31_2,hfz31_3,hfz31_4,hfz31_5,hfz31_6,hfz31_7⟩:=k8 BK277.out
     go_wp2_with (first | ((with_reducible refine gate_callee (f:=82) rfl ?_);refine goesL_ (some 20) rfl rfl Tryz.func82 (by kernel_rfl) rfl #[.int .i64 a0_3,.int .i64 1,.int .i64 1048576] rfl aA ?_;(with_reducible refine (backfillref11_within.calls a0_3 1 1048576 false _ A12.out).mono ?_);rintro e w' ⟨rfl,⟨nd,rfl⟩⟩;refine ⟨_,rfl,?_⟩))
     go_ret
     exact eA

def backfillref11_C.f (a0_0 : Int) (a0_1 : Int) (a0_2 : Int) (a0_3 : Int) (a0_4 : Int) (a0_5 : Int) (a0_6 : Int) (a0_7 : Int) : Option (Int):=some (wrap64 (a0_0 * a0_6))
theorem backfillref11_C.calls (a0_0 : Int) (a0_1 : Int) (a0_2 : Int) (a0_3 : Int) (a0_4 : Int) (a0_5 : Int) (a0_6 : Int) (a0_7 : Int) (r : Int) (w : World) (h : backfillref11_C.f a0_0 a0_1 a0_2 a0_3 a0_4 a0_5 a0_6 a0_7 = some r) :
  Calls Tryz.prog 54 #[.agg #[.int .i64 a0_0,.int .i64 a0_1,.int .i64 a0_2,.int .i64 a0_3,.int .i64 a0_4,.int .i64 a0_5,.int .i64 a0_6,.int .i64 a0_7]] w fun e w' => e = .returned (.int .i64 r) ∧ Below w.heap.size w w':=by
 have hu23:=Tryz.underlying23
 have HB:=Am (Below.refl w.heap.size w)
 have H : (some (wrap64 (a0_0 * a0_6))) = some r:=h
 clear h
 obtain rfl:=Option.some.inj H
 go_enter Tryz.func54,Tryz.ntmps54
 go_wp2_with (first | ((with_reducible refine gate_dst (N:=1) rfl ?_);refine bxA 1 #[.int .i64 a0_0,.int .i64 a0_1,.int .i64 a0_2,.int .i64 a0_3,.int .i64 a0_4,.int .i64 a0_5,.int .i64 a0_6,.int .i64 a0_7] 23 ?_;intro gb286 hg w2 hbox hb;have BK286:=Am (hbox);have GW286:=Am (gwA hg bA);have GE286:=Am (gwA hg bA);replace HB:=Am (below_step bA hb);clear hb hbox hg;obtain ⟨hcz3_0,hcz3_1,hcz3_2,hcz3_3,hcz3_4,hcz3_5,hcz3_6,hcz3_7,hfz3_0,hfz3_1,hfz3_2,hfz3_3,hfz3_4,hfz3_5,hfz3_6,hfz3_7⟩:=k8 BK286.out))
 go_ret
 exact eA

def backfillref10_Exponent.f (a0 : Int) (a1 : Int) : Option (Int):=if (IntKind.u64.wrap (a1)) = 0 then (none) else (some (IntKind.u64.wrap (Int.tdiv (IntKind.u64.wrap ((IntKind.u64.wrap (a0)) * 4294967296)) (IntKind.u64.wrap (a1)))))
theorem backfillref10_Exponent.calls (a0 : Int) (a1 : Int) (r : Int) (w : World) (h : backfillref10_Exponent.f a0 a1 = some r) :
  Calls Tryz.prog 101 #[.int .i64 a0,.int .i64 a1] w fun e w' => e = .returned (.int .u64 r) ∧ Drawn0 w w':=by
 have H : (if (IntKind.u64.wrap (a1)) = 0 then (none) else (some (IntKind.u64.wrap (Int.tdiv (IntKind.u64.wrap ((IntKind.u64.wrap (a0)) * 4294967296)) (IntKind.u64.wrap (a1)))))) = some r:=h
 clear h
 by_cases c3 : (IntKind.u64.wrap (a1)) = 0
 ·rw [if_pos c3] at H
  exact absurd H (by simp)
 ·rw [if_neg c3] at H
  have c3b0 : ((IntKind.u64.wrap (a1)) == 0) = false:=beq_eq_false_iff_ne.mpr c3
  have c3b1 : ((IntKind.u64.wrap (a1)) != 0) = true:=bne_iff_ne.mpr c3
  obtain rfl:=Option.some.inj H
  go_enter Tryz.func101,Tryz.ntmps101
  go_wp2
  go_ret
  exact ⟨by first | rfl | (simp;done) | (simp [*];done),by repeat (first | exact Drawn0.refl _ | apply Drawn0.step)⟩

def backfillref11_up.f (a0 : Int) (a1 : Int) : Option (Int):=if a1 = 0 then (none) else (some (wrap64 (Int.tdiv (wrap64 ((wrap64 (a0 + a1)) - 1)) a1)))
theorem backfillref11_up.calls (a0 : Int) (a1 : Int) (r : Int) (w : World) (h : backfillref11_up.f a0 a1 = some r) :
  Calls Tryz.prog 102 #[.int .i64 a0,.int .i64 a1] w fun e w' => e = .returned (.int .i64 r) ∧ Drawn0 w w':=by
 have H : (if a1 = 0 then (none) else (some (wrap64 (Int.tdiv (wrap64 ((wrap64 (a0 + a1)) - 1)) a1)))) = some r:=h
 clear h
 by_cases c3 : a1 = 0
 ·rw [if_pos c3] at H
  exact absurd H (by simp)
 ·rw [if_neg c3] at H
  have c3b0 : (a1 == 0) = false:=beq_eq_false_iff_ne.mpr c3
  have c3b1 : (a1 != 0) = true:=bne_iff_ne.mpr c3
  obtain rfl:=Option.some.inj H
  go_enter Tryz.func102,Tryz.ntmps102
  go_wp2
  go_ret
  exact ⟨by first | rfl | (simp;done) | (simp [*];done),by repeat (first | exact Drawn0.refl _ | apply Drawn0.step)⟩

def backfillref11_K.f (a0_0 : Int) (a0_1 : Int) (a0_2 : Int) (a0_3 : Int) (a0_4 : Int) (a0_5 : Int) (a0_6 : Int) (a0_7 : Int) : Option (Int):=(backfillref10_Exponent.f a0_6 a0_7).bind fun t288 => ((backfillref11_up.f 8589934592 (wrap64 (t288))).bind fun t289 => (if t289 < 2 then (some 2) else (some t289)))
theorem backfillref11_K.calls (a0_0 : Int) (a0_1 : Int) (a0_2 : Int) (a0_3 : Int) (a0_4 : Int) (a0_5 : Int) (a0_6 : Int) (a0_7 : Int) (r : Int) (w : World) (h : backfillref11_K.f a0_0 a0_1 a0_2 a0_3 a0_4 a0_5 a0_6 a0_7 = some r) :
  Calls Tryz.prog 83 #[.agg #[.int .i64 a0_0,.int .i64 a0_1,.int .i64 a0_2,.int .i64 a0_3,.int .i64 a0_4,.int .i64 a0_5,.int .i64 a0_6,.int .i64 a0_7]] w fun e w' => e = .returned (.int .i64 r) ∧ Below w.heap.size w w':=by
 have hu23:=Tryz.underlying23
 have HB:=Am (Below.refl w.heap.size w)
 have H : ((backfillref10_Exponent.f a0_6 a0_7).bind fun t288 => ((backfillref11_up.f 8589934592 (wrap64 (t288))).bind fun t289 => (if t289 < 2 then (some 2) else (some t289)))) = some r:=h
 clear h;obtain ⟨t288,A2,H⟩:=bnd H;(try dsimp only at H);obtain ⟨t289,A3,H⟩:=bnd H;(try dsimp only at H)
 by_cases c4 : t289 < 2
 ·rw [if_pos c4] at H
  have c4b0 : decide (t289 < 2) = true:=decide_eq_true c4
  clear c4
  obtain rfl:=Option.some.inj H
  go_enter Tryz.func83,Tryz.ntmps83
  go_wp2_with (first | ((with_reducible refine gate_dst (N:=1) rfl ?_);refine bxA 1 #[.int .i64 a0_0,.int .i64 a0_1,.int .i64 a0_2,.int .i64 a0_3,.int .i64 a0_4,.int .i64 a0_5,.int .i64 a0_6,.int .i64 a0_7] 23 ?_;intro gb287 hg w5 hbox hb;have BK287:=Am (hbox);have GW287:=Am (gwA hg bA);have GE287:=Am (gwA hg bA);replace HB:=Am (below_step bA hb);clear hb hbox hg;obtain ⟨hcz6_0,hcz6_1,hcz6_2,hcz6_3,hcz6_4,hcz6_5,hcz6_6,hcz6_7,hfz6_0,hfz6_1,hfz6_2,hfz6_3,hfz6_4,hfz6_5,hfz6_6,hfz6_7⟩:=k8 BK287.out) | ((with_reducible refine gate_callee (f:=101) rfl ?_);refine goesL_ (some 9) rfl rfl Tryz.func101 (by kernel_rfl) rfl #[.int .i64 a0_6,.int .i64 a0_7] rfl aA ?_;(with_reducible refine (backfillref10_Exponent.calls a0_6 a0_7 t288 _ A2.out).mono ?_);rintro e w' ⟨rfl,⟨nd,rfl⟩⟩;refine ⟨_,rfl,?_⟩) | ((with_reducible refine gate_callee (f:=102) rfl ?_);refine goesL_ (some 12) rfl rfl Tryz.func102 (by kernel_rfl) rfl #[.int .i64 8589934592,.int .i64 (wrap64 (t288))] rfl aA ?_;(with_reducible refine (backfillref11_up.calls 8589934592 (wrap64 (t288)) t289 _ A3.out).mono ?_);rintro e w' ⟨rfl,⟨nd,rfl⟩⟩;refine ⟨_,rfl,?_⟩))
  go_ret
  exact eA
 ·rw [if_neg c4] at H
  have c4b0 : decide (t289 < 2) = false:=decide_eq_false c4
  clear c4
  obtain rfl:=Option.some.inj H
  go_enter Tryz.func83,Tryz.ntmps83
  go_wp2_with (first | ((with_reducible refine gate_dst (N:=1) rfl ?_);refine bxA 1 #[.int .i64 a0_0,.int .i64 a0_1,.int .i64 a0_2,.int .i64 a0_3,.int .i64 a0_4,.int .i64 a0_5,.int .i64 a0_6,.int .i64 a0_7] 23 ?_;intro gb287 hg w7 hbox hb;have BK287:=Am (hbox);have GW287:=Am (gwA hg bA);have GE287:=Am (gwA hg bA);replace HB:=Am (below_step bA hb);clear hb hbox hg;obtain ⟨hcz8_0,hcz8_1,hcz8_2,hcz8_3,hcz8_4,hcz8_5,hcz8_6,hcz8_7,hfz8_0,hfz8_1,hfz8_2,hfz8_3,hfz8_4,hfz8_5,hfz8_6,hfz8_7⟩:=k8 BK287.out) | ((with_reducible refine gate_callee (f:=101) rfl ?_);refine goesL_ (some 9) rfl rfl Tryz.func101 (by kernel_rfl) rfl #[.int .i64 a0_6,.int .i64 a0_7] rfl aA ?_;(with_reducible refine (backfillref10_Exponent.calls a0_6 a0_7 t288 _ A2.out).mono ?_);rintro e w' ⟨rfl,⟨nd,rfl⟩⟩;refine ⟨_,rfl,?_⟩) | ((with_reducible refine gate_callee (f:=102) rfl ?_);refine goesL_ (some 12) rfl rfl Tryz.func102 (by kernel_rfl) rfl #[.int .i64 8589934592,.int .i64 (wrap64 (t288))] rfl aA ?_;(with_reducible refine (backfillref11_up.calls 8589934592 (wrap64 (t288)) t289 _ A3.out).mono ?_);rintro e w' ⟨rfl,⟨nd,rfl⟩⟩;refine ⟨_,rfl,?_⟩))
  go_ret
  exact eA

def backfillref11_M.f (a0_0 : Int) (a0_1 : Int) (a0_2 : Int) (a0_3 : Int) (a0_4 : Int) (a0_5 : Int) (a0_6 : Int) (a0_7 : Int) : Option (Int):=(backfillref11_C.f a0_0 a0_1 a0_2 a0_3 a0_4 a0_5 a0_6 a0_7).bind fun t291 => ((backfillref11_K.f a0_0 a0_1 a0_2 a0_3 a0_4 a0_5 a0_6 a0_7).bind fun t292 => (some (wrap64 (t291 * t292))))
theorem backfillref11_M.calls (a0_0 : Int) (a0_1 : Int) (a0_2 : Int) (a0_3 : Int) (a0_4 : Int) (a0_5 : Int) (a0_6 : Int) (a0_7 : Int) (r : Int) (w : World) (h : backfillref11_M.f a0_0 a0_1 a0_2 a0_3 a0_4 a0_5 a0_6 a0_7 = some r) :
  Calls Tryz.prog 48 #[.agg #[.int .i64 a0_0,.int .i64 a0_1,.int .i64 a0_2,.int .i64 a0_3,.int .i64 a0_4,.int .i64 a0_5,.int .i64 a0_6,.int .i64 a0_7]] w fun e w' => e = .returned (.int .i64 r) ∧ Below w.heap.size w w':=by
 have hu23:=Tryz.underlying23
 have HB:=Am (Below.refl w.heap.size w)
 have H : ((backfillref11_C.f a0_0 a0_1 a0_2 a0_3 a0_4 a0_5 a0_6 a0_7).bind fun t291 => ((backfillref11_K.f a0_0 a0_1 a0_2 a0_3 a0_4 a0_5 a0_6 a0_7).bind fun t292 => (some (wrap64 (t291 * t292))))) = some r:=h
 clear h;obtain ⟨t291,A2,H⟩:=bnd H;(try dsimp only at H);obtain ⟨t292,A3,H⟩:=bnd H;(try dsimp only at H)
 obtain rfl:=Option.some.inj H
 go_enter Tryz.func48,Tryz.ntmps48
 try go_wp2_with (first | ((with_reducible refine gate_dst (N:=1) rfl ?_);refine bxA 1 #[.int .i64 a0_0,.int .i64 a0_1,.int .i64 a0_2,.int .i64 a0_3,.int .i64 a0_4,.int .i64 a0_5,.int .i64 a0_6,.int .i64 a0_7] 23 ?_;intro gb290 hg w4 hbox hb;have BK290:=Am (hbox);have GW290:=Am (gwA hg bA);have GE290:=Am (gwA hg bA);replace HB:=Am (below_step bA hb);clear hb hbox hg))
 replace BK290:=Am (blk_drew BK290.out);replace HB:=Am (below_drew1 HB.out)
 refine start_ (n:=6) (S:=fun w' => w'.cell? ⟨gb290,0,none⟩ = some (.int .i64 a0_0) ∧ w'.cell? ⟨gb290,1,none⟩ = some (.int .i64 a0_1) ∧ w'.cell? ⟨gb290,2,none⟩ = some (.int .i64 a0_2) ∧ w'.cell? ⟨gb290,3,none⟩ = some (.int .i64 a0_3) ∧ w'.cell? ⟨gb290,4,none⟩ = some (.int .i64 a0_4) ∧ w'.cell? ⟨gb290,5,none⟩ = some (.int .i64 a0_5) ∧ w'.cell? ⟨gb290,6,none⟩ = some (.int .i64 a0_6) ∧ w'.cell? ⟨gb290,7,none⟩ = some (.int .i64 a0_7)) (ds:=[]) #[nn,nn,nn,nn,nn,nn] (by kernel_rfl) rfl rfl (q8 BK290.out) (fun hHeld => ?_)
 generalize w4.drew = w5 at BK290 HB hHeld ⊢
 refine tk_ 0 (some 3) #[yy,nn,nn,nn,nn,nn] (by kernel_rfl) hHeld ?_
 refine tk_ 2 (some 5) #[yy,nn,yy,nn,nn,nn] (by kernel_rfl) hHeld ?_
 refine one_ (i:=1) (N:=some 4) #[yy,yy,yy,nn,nn,nn] rfl rfl (by kernel_rfl) (by decide) (fun K hK => ?_)
 refine goes_ Tryz.func54 (by kernel_rfl) rfl #[.agg #[.int .i64 a0_0,.int .i64 a0_1,.int .i64 a0_2,.int .i64 a0_3,.int .i64 a0_4,.int .i64 a0_5,.int .i64 a0_6,.int .i64 a0_7]] (by rfl) rfl rfl aA ?_
 with_reducible refine (backfillref11_C.calls a0_0 a0_1 a0_2 a0_3 a0_4 a0_5 a0_6 a0_7 t291 _ A2.out).mono ?_
 rintro e w6 ⟨rfl,hb⟩
 refine ⟨_,rfl,?_⟩;replace BK290:=Am (blk_below (g:=gb290) kA hb);replace HB:=Am (below_step bA hb);(try clear hb)
 refine hK.out _ _ (q8 BK290.out) (fun hHeld => ?_)
 clear hK K
 refine nm_ ?_
 refine one_ (i:=3) (N:=some 6) #[yy,yy,yy,yy,nn,nn] rfl rfl (by kernel_rfl) (by decide) (fun K hK => ?_)
 refine goes_ Tryz.func83 (by kernel_rfl) rfl #[.agg #[.int .i64 a0_0,.int .i64 a0_1,.int .i64 a0_2,.int .i64 a0_3,.int .i64 a0_4,.int .i64 a0_5,.int .i64 a0_6,.int .i64 a0_7]] (by rfl) rfl rfl aA ?_
 with_reducible refine (backfillref11_K.calls a0_0 a0_1 a0_2 a0_3 a0_4 a0_5 a0_6 a0_7 t292 _ A3.out).mono ?_
 rintro e w7 ⟨rfl,hb⟩
 refine ⟨_,rfl,?_⟩;replace BK290:=Am (blk_below (g:=gb290) kA hb);replace HB:=Am (below_step bA hb);(try clear hb)
 refine hK.out _ _ (q8 BK290.out) (fun hHeld => ?_)
 clear hK K
 refine nm_ ?_
 refine pu_ 4 (some 7) #[yy,yy,yy,yy,yy,nn] (by kernel_rfl) ?_
 refine pu_ 5 (some 2) #[yy,yy,yy,yy,yy,yy] (by kernel_rfl) ?_
 refine done_ (by kernel_rfl) ?_
 try go_wp2
 go_ret
 exact eA

def backfillref01_Mul.f (a0 : Int) (a1 : Int) : Option (Int × Int):=some (IntKind.u64.wrap ((IntKind.u64.wrap ((IntKind.u64.wrap ((IntKind.u64.wrap ((a0 / 4294967296) * (a1 / 4294967296))) + ((IntKind.u64.wrap ((a0 / 4294967296) * (Go.bits .and .u64 a1 4294967295))) / 4294967296))) + ((IntKind.u64.wrap ((Go.bits .and .u64 a0 4294967295) * (a1 / 4294967296))) / 4294967296))) + ((IntKind.u64.wrap ((IntKind.u64.wrap (((IntKind.u64.wrap ((Go.bits .and .u64 a0 4294967295) * (Go.bits .and .u64 a1 4294967295))) / 4294967296) + (Go.bits .and .u64 (IntKind.u64.wrap ((a0 / 4294967296) * (Go.bits .and .u64 a1 4294967295))) 4294967295))) + (Go.bits .and .u64 (IntKind.u64.wrap ((Go.bits .and .u64 a0 4294967295) * (a1 / 4294967296))) 4294967295))) / 4294967296)),IntKind.u64.wrap ((IntKind.u64.wrap ((IntKind.u64.wrap ((IntKind.u64.wrap (((IntKind.u64.wrap ((Go.bits .and .u64 a0 4294967295) * (Go.bits .and .u64 a1 4294967295))) / 4294967296) + (Go.bits .and .u64 (IntKind.u64.wrap ((a0 / 4294967296) * (Go.bits .and .u64 a1 4294967295))) 4294967295))) + (Go.bits .and .u64 (IntKind.u64.wrap ((Go.bits .and .u64 a0 4294967295) * (a1 / 4294967296))) 4294967295))) * 4294967296)) + (Go.bits .and .u64 (IntKind.u64.wrap ((Go.bits .and .u64 a0 4294967295) * (Go.bits .and .u64 a1 4294967295))) 4294967295)))
theorem backfillref01_Mul.calls (a0 : Int) (a1 : Int) (r1 : Int) (r2 : Int) (w : World) (h : backfillref01_Mul.f a0 a1 = some (r1,r2)) :
  Calls Tryz.prog 57 #[.int .u64 a0,.int .u64 a1] w fun e w' => e = .returned (.agg #[.int .u64 r1,.int .u64 r2]) ∧ Below w.heap.size w w':=by
 have hu82:=Tryz.underlying82
 have HB:=Am (Below.refl w.heap.size w)
 have H : (some (IntKind.u64.wrap ((IntKind.u64.wrap ((IntKind.u64.wrap ((IntKind.u64.wrap ((a0 / 4294967296) * (a1 / 4294967296))) + ((IntKind.u64.wrap ((a0 / 4294967296) * (Go.bits .and .u64 a1 4294967295))) / 4294967296))) + ((IntKind.u64.wrap ((Go.bits .and .u64 a0 4294967295) * (a1 / 4294967296))) / 4294967296))) + ((IntKind.u64.wrap ((IntKind.u64.wrap (((IntKind.u64.wrap ((Go.bits .and .u64 a0 4294967295) * (Go.bits .and .u64 a1 4294967295))) / 4294967296) + (Go.bits .and .u64 (IntKind.u64.wrap ((a0 / 4294967296) * (Go.bits .and .u64 a1 4294967295))) 4294967295))) + (Go.bits .and .u64 (IntKind.u64.wrap ((Go.bits .and .u64 a0 4294967295) * (a1 / 4294967296))) 4294967295))) / 4294967296)),IntKind.u64.wrap ((IntKind.u64.wrap ((IntKind.u64.wrap ((IntKind.u64.wrap (((IntKind.u64.wrap ((Go.bits .and .u64 a0 4294967295) * (Go.bits .and .u64 a1 4294967295))) / 4294967296) + (Go.bits .and .u64 (IntKind.u64.wrap ((a0 / 4294967296) * (Go.bits .and .u64 a1 4294967295))) 4294967295))) + (Go.bits .and .u64 (IntKind.u64.wrap ((Go.bits .and .u64 a0 4294967295) * (a1 / 4294967296))) 4294967295))) * 4294967296)) + (Go.bits .and .u64 (IntKind.u64.wrap ((Go.bits .and .u64 a0 4294967295) * (Go.bits .and .u64 a1 4294967295))) 4294967295)))) = some (r1,r2):=h
 clear h
 simp only [Option.some.injEq,Prod.mk.injEq] at H
 obtain ⟨rfl,rfl⟩:=H
 go_enter Tryz.func57,Tryz.ntmps57
 go_wp2_with (first | ((with_reducible refine gate_dst (N:=4) rfl ?_);refine bxA 4 #[.int .u64 0,.int .u64 0] 82 ?_;intro gb293 hg w3 hbox hb;have BK293:=Am (hbox);have GW293:=Am (gwA hg bA);have GE293:=Am (gwA hg bA);replace HB:=Am (below_step bA hb);clear hb hbox hg;obtain ⟨hcz4_0,hcz4_1,hfz4_0,hfz4_1⟩:=k2 BK293.out))
 refine bodyPost_ret (results_cell_row rfl _ _ gb293 82 #[.int .u64 (IntKind.u64.wrap ((IntKind.u64.wrap ((IntKind.u64.wrap ((IntKind.u64.wrap ((a0 / 4294967296) * (a1 / 4294967296))) + ((IntKind.u64.wrap ((a0 / 4294967296) * (Go.bits .and .u64 a1 4294967295))) / 4294967296))) + ((IntKind.u64.wrap ((Go.bits .and .u64 a0 4294967295) * (a1 / 4294967296))) / 4294967296))) + ((IntKind.u64.wrap ((IntKind.u64.wrap (((IntKind.u64.wrap ((Go.bits .and .u64 a0 4294967295) * (Go.bits .and .u64 a1 4294967295))) / 4294967296) + (Go.bits .and .u64 (IntKind.u64.wrap ((a0 / 4294967296) * (Go.bits .and .u64 a1 4294967295))) 4294967295))) + (Go.bits .and .u64 (IntKind.u64.wrap ((Go.bits .and .u64 a0 4294967295) * (a1 / 4294967296))) 4294967295))) / 4294967296))),.int .u64 (IntKind.u64.wrap ((IntKind.u64.wrap ((IntKind.u64.wrap ((IntKind.u64.wrap (((IntKind.u64.wrap ((Go.bits .and .u64 a0 4294967295) * (Go.bits .and .u64 a1 4294967295))) / 4294967296) + (Go.bits .and .u64 (IntKind.u64.wrap ((a0 / 4294967296) * (Go.bits .and .u64 a1 4294967295))) 4294967295))) + (Go.bits .and .u64 (IntKind.u64.wrap ((Go.bits .and .u64 a0 4294967295) * (a1 / 4294967296))) 4294967295))) * 4294967296)) + (Go.bits .and .u64 (IntKind.u64.wrap ((Go.bits .and .u64 a0 4294967295) * (Go.bits .and .u64 a1 4294967295))) 4294967295)))] (0,0) _ rfl (by (with_reducible repeat (first | refine b1 ?_ _ | refine b2 ?_ | refine b3 ?_ _));refine blk_put (cs:=#[.int .u64 (IntKind.u64.wrap ((IntKind.u64.wrap ((IntKind.u64.wrap ((IntKind.u64.wrap ((a0 / 4294967296) * (a1 / 4294967296))) + ((IntKind.u64.wrap ((a0 / 4294967296) * (Go.bits .and .u64 a1 4294967295))) / 4294967296))) + ((IntKind.u64.wrap ((Go.bits .and .u64 a0 4294967295) * (a1 / 4294967296))) / 4294967296))) + ((IntKind.u64.wrap ((IntKind.u64.wrap (((IntKind.u64.wrap ((Go.bits .and .u64 a0 4294967295) * (Go.bits .and .u64 a1 4294967295))) / 4294967296) + (Go.bits .and .u64 (IntKind.u64.wrap ((a0 / 4294967296) * (Go.bits .and .u64 a1 4294967295))) 4294967295))) + (Go.bits .and .u64 (IntKind.u64.wrap ((Go.bits .and .u64 a0 4294967295) * (a1 / 4294967296))) 4294967295))) / 4294967296))),.int .u64 0]) ?_ 1 _ rfl;(with_reducible repeat (first | refine b1 ?_ _ | refine b2 ?_ | refine b3 ?_ _));refine blk_put (cs:=#[.int .u64 0,.int .u64 0]) ?_ 0 _ rfl;exact kA) Tryz.underlying82 rfl (by kernel_rfl)) rfl ?_
 exact eA

def backfillref01_greatest.f  : Option (Int × Int):=some (18446744073709551615,18446744073709551615)
theorem backfillref01_greatest.calls  (r1 : Int) (r2 : Int) (w : World) (h : backfillref01_greatest.f  = some (r1,r2)) :
  Calls Tryz.prog 85 #[] w fun e w' => e = .returned (.agg #[.int .u64 r1,.int .u64 r2]) ∧ Below w.heap.size w w':=by
 have hu82:=Tryz.underlying82
 have HB:=Am (Below.refl w.heap.size w)
 have H : (some (18446744073709551615,18446744073709551615)) = some (r1,r2):=h
 clear h
 simp only [Option.some.injEq,Prod.mk.injEq] at H
 obtain ⟨rfl,rfl⟩:=H
 go_enter Tryz.func85,Tryz.ntmps85
 go_wp2_with (first | ((with_reducible refine gate_dst (N:=0) rfl ?_);refine bxA 0 #[.int .u64 0,.int .u64 0] 82 ?_;intro gb294 hg w1 hbox hb;have BK294:=Am (hbox);have GW294:=Am (gwA hg bA);have GE294:=Am (gwA hg bA);replace HB:=Am (below_step bA hb);clear hb hbox hg;obtain ⟨hcz2_0,hcz2_1,hfz2_0,hfz2_1⟩:=k2 BK294.out))
 refine bodyPost_ret (results_cell_row rfl _ _ gb294 82 #[.int .u64 18446744073709551615,.int .u64 18446744073709551615] (0,0) _ rfl (by (with_reducible repeat (first | refine b1 ?_ _ | refine b2 ?_ | refine b3 ?_ _));refine blk_put (cs:=#[.int .u64 18446744073709551615,.int .u64 0]) ?_ 1 _ rfl;(with_reducible repeat (first | refine b1 ?_ _ | refine b2 ?_ | refine b3 ?_ _));refine blk_put (cs:=#[.int .u64 0,.int .u64 0]) ?_ 0 _ rfl;exact kA) Tryz.underlying82 rfl (by kernel_rfl)) rfl ?_
 exact eA

def backfillref01_Add.f (a0_0 : Int) (a0_1 : Int) (a1_0 : Int) (a1_1 : Int) : Option (Int × Int × Bool):=if (IntKind.u64.wrap (a0_1 + a1_1)) < a0_1 then (if (IntKind.u64.wrap (a0_0 + a1_0)) ≥ a0_0 then (if ((IntKind.u64.wrap ((IntKind.u64.wrap (a0_0 + a1_0)) + 1)) > 0) then (some (IntKind.u64.wrap ((IntKind.u64.wrap (a0_0 + a1_0)) + 1),IntKind.u64.wrap (a0_1 + a1_1),true)) else ((backfillref01_greatest.f).bind fun bt299 => (some (bt299.1,bt299.2,false)))) else ((backfillref01_greatest.f).bind fun bt301 => (some (bt301.1,bt301.2,false)))) else (if ((IntKind.u64.wrap (a0_0 + a1_0)) ≥ a0_0) then (some (IntKind.u64.wrap (a0_0 + a1_0),IntKind.u64.wrap (a0_1 + a1_1),true)) else ((backfillref01_greatest.f).bind fun bt303 => (some (bt303.1,bt303.2,false))))
theorem backfillref01_Add.calls (a0_0 : Int) (a0_1 : Int) (a1_0 : Int) (a1_1 : Int) (r1 : Int) (r2 : Int) (r3 : Bool) (w : World) (h : backfillref01_Add.f a0_0 a0_1 a1_0 a1_1 = some (r1,r2,r3)) :
  Calls Tryz.prog 64 #[.agg #[.int .u64 a0_0,.int .u64 a0_1],.agg #[.int .u64 a1_0,.int .u64 a1_1]] w fun e w' => e = .returned (.tuple #[.agg #[.int .u64 r1,.int .u64 r2],.bool r3]) ∧ Below w.heap.size w w':=by
 have hu82:=Tryz.underlying82
 have HB:=Am (Below.refl w.heap.size w)
 have H : (if (IntKind.u64.wrap (a0_1 + a1_1)) < a0_1 then (if (IntKind.u64.wrap (a0_0 + a1_0)) ≥ a0_0 then (if ((IntKind.u64.wrap ((IntKind.u64.wrap (a0_0 + a1_0)) + 1)) > 0) then (some (IntKind.u64.wrap ((IntKind.u64.wrap (a0_0 + a1_0)) + 1),IntKind.u64.wrap (a0_1 + a1_1),true)) else ((backfillref01_greatest.f).bind fun bt299 => (some (bt299.1,bt299.2,false)))) else ((backfillref01_greatest.f).bind fun bt301 => (some (bt301.1,bt301.2,false)))) else (if ((IntKind.u64.wrap (a0_0 + a1_0)) ≥ a0_0) then (some (IntKind.u64.wrap (a0_0 + a1_0),IntKind.u64.wrap (a0_1 + a1_1),true)) else ((backfillref01_greatest.f).bind fun bt303 => (some (bt303.1,bt303.2,false))))) = some (r1,r2,r3):=h
 clear h
 by_cases c3 : (IntKind.u64.wrap (a0_1 + a1_1)) < a0_1
 ·rw [if_pos c3] at H
  have c3b0 : decide ((IntKind.u64.wrap (a0_1 + a1_1)) < a0_1) = true:=decide_eq_true c3
  clear c3
  by_cases c4 : (IntKind.u64.wrap (a0_0 + a1_0)) ≥ a0_0
  ·rw [if_pos c4] at H
   have c4b0 : decide (a0_0 ≤ (IntKind.u64.wrap (a0_0 + a1_0))) = true:=decide_eq_true c4
   clear c4
   by_cases c5 : ((IntKind.u64.wrap ((IntKind.u64.wrap (a0_0 + a1_0)) + 1)) > 0)
   ·rw [if_pos c5] at H
    have c5b0 : decide (0 < (IntKind.u64.wrap ((IntKind.u64.wrap (a0_0 + a1_0)) + 1))) = true:=decide_eq_true c5
    clear c5
    simp only [Option.some.injEq,Prod.mk.injEq] at H
    obtain ⟨rfl,rfl,rfl⟩:=H
    go_enter Tryz.func64,Tryz.ntmps64
    go_wp2_with (first | ((with_reducible refine gate_dst (N:=2) rfl ?_);refine bxA 2 #[.int .u64 a0_0,.int .u64 a0_1] 82 ?_;intro gb295 hg w6 hbox hb;have BK295:=Am (hbox);have GW295:=Am (gwA hg bA);have GE295:=Am (gwA hg bA);replace HB:=Am (below_step bA hb);clear hb hbox hg) | ((with_reducible refine gate_dst (N:=3) rfl ?_);refine bxA 3 #[.int .u64 a1_0,.int .u64 a1_1] 82 ?_;intro gb296 hg w7 hbox hb;have BK296:=Am (hbox);have GW296:=Am (gwA hg bA);have GE296:=Am (gwA hg bA);have NB295_296:=Am (neA (g:=gb295) hg kA);have NB296_295:=Am (neB (g:=gb295) hg kA);replace BK295:=Am (blk_below (g:=gb295) kA hb);replace HB:=Am (below_step bA hb);clear hb hbox hg) | ((with_reducible refine gate_dst (N:=4) rfl ?_);refine bxA 4 #[.int .u64 0,.int .u64 0] 82 ?_;intro gb297 hg w8 hbox hb;have BK297:=Am (hbox);have GW297:=Am (gwA hg bA);have GE297:=Am (gwA hg bA);have NB295_297:=Am (neA (g:=gb295) hg kA);have NB297_295:=Am (neB (g:=gb295) hg kA);have NB296_297:=Am (neA (g:=gb296) hg kA);have NB297_296:=Am (neB (g:=gb296) hg kA);replace BK295:=Am (blk_below (g:=gb295) kA hb);replace BK296:=Am (blk_below (g:=gb296) kA hb);replace HB:=Am (below_step bA hb);clear hb hbox hg;have hnb9:=NB295_296.out;have hnc9:=NB296_295.out;have hnb10:=NB295_297.out;have hnc10:=NB297_295.out;obtain ⟨hcz11_0,hcz11_1,hfz11_0,hfz11_1⟩:=k2 BK295.out;have hnb12:=NB296_297.out;have hnc12:=NB297_296.out;obtain ⟨hcz13_0,hcz13_1,hfz13_0,hfz13_1⟩:=k2 BK296.out) | ((with_reducible refine gate_dst (N:=6) rfl ?_);refine bxA 6 #[.int .u64 0,.int .u64 0] 82 ?_;intro gb298 hg w14 hbox hb;have BK298:=Am (hbox);have GW298:=Am (gwA hg bA);have GE298:=Am (gwA hg bA);have NB295_298:=Am (neA (g:=gb295) hg kA);have NB298_295:=Am (neB (g:=gb295) hg kA);have NB296_298:=Am (neA (g:=gb296) hg kA);have NB298_296:=Am (neB (g:=gb296) hg kA);have NB297_298:=Am (neA (g:=gb297) hg kA);have NB298_297:=Am (neB (g:=gb297) hg kA);replace BK295:=Am (blk_below (g:=gb295) kA hb);replace BK296:=Am (blk_below (g:=gb296) kA hb);replace BK297:=Am (blk_below (g:=gb297) kA hb);replace HB:=Am (below_step bA hb);clear hb hbox hg;have hnb15:=NB298_295.out;have hnc15:=NB295_298.out;have hnb16:=NB298_296.out;have hnc16:=NB296_298.out;have hnb17:=NB298_297.out;have hnc17:=NB297_298.out;obtain ⟨hcz18_0,hcz18_1,hfz18_0,hfz18_1⟩:=k2 BK298.out;obtain ⟨hcz19_0,hcz19_1,hfz19_0,hfz19_1⟩:=k2 BK295.out;obtain ⟨hcz20_0,hcz20_1,hfz20_0,hfz20_1⟩:=k2 BK297.out))
    refine bodyPost_ret (results_ct rfl _ _ gb297 82 #[.int .u64 (IntKind.u64.wrap ((IntKind.u64.wrap (a0_0 + a1_0)) + 1)),.int .u64 (IntKind.u64.wrap (a0_1 + a1_1))] (0,0) _ rfl (by (with_reducible repeat (first | refine b1 ?_ _ | refine b2 ?_ | refine b3 ?_ _));refine blk_put (cs:=#[.int .u64 (IntKind.u64.wrap ((IntKind.u64.wrap (a0_0 + a1_0)) + 1)),.int .u64 0]) ?_ 1 _ rfl;(with_reducible repeat (first | refine b1 ?_ _ | refine b2 ?_ | refine b3 ?_ _));refine blk_put (cs:=#[.int .u64 0,.int .u64 0]) ?_ 0 _ rfl;(with_reducible repeat (first | refine b1 ?_ _ | refine b2 ?_ | refine b3 ?_ _));refine blk_far ?_ NB297_298.out _;(with_reducible repeat (first | refine b1 ?_ _ | refine b2 ?_ | refine b3 ?_ _));refine blk_far ?_ NB297_298.out _;(with_reducible repeat (first | refine b1 ?_ _ | refine b2 ?_ | refine b3 ?_ _));refine blk_far ?_ NB297_298.out _;exact kA) Tryz.underlying82 rfl (by kernel_rfl)) rfl ?_
    exact eA
   ·rw [if_neg c5] at H
    have c5b0 : decide (0 < (IntKind.u64.wrap ((IntKind.u64.wrap (a0_0 + a1_0)) + 1))) = false:=decide_eq_false c5
    clear c5;obtain ⟨⟨t299,t300⟩,A21,H⟩:=bnd H;(try dsimp only at H)
    simp only [Option.some.injEq,Prod.mk.injEq] at H
    obtain ⟨rfl,rfl,rfl⟩:=H
    go_enter Tryz.func64,Tryz.ntmps64
    go_wp2_with (first | ((with_reducible refine gate_dst (N:=2) rfl ?_);refine bxA 2 #[.int .u64 a0_0,.int .u64 a0_1] 82 ?_;intro gb295 hg w22 hbox hb;have BK295:=Am (hbox);have GW295:=Am (gwA hg bA);have GE295:=Am (gwA hg bA);replace HB:=Am (below_step bA hb);clear hb hbox hg) | ((with_reducible refine gate_dst (N:=3) rfl ?_);refine bxA 3 #[.int .u64 a1_0,.int .u64 a1_1] 82 ?_;intro gb296 hg w23 hbox hb;have BK296:=Am (hbox);have GW296:=Am (gwA hg bA);have GE296:=Am (gwA hg bA);have NB295_296:=Am (neA (g:=gb295) hg kA);have NB296_295:=Am (neB (g:=gb295) hg kA);replace BK295:=Am (blk_below (g:=gb295) kA hb);replace HB:=Am (below_step bA hb);clear hb hbox hg) | ((with_reducible refine gate_dst (N:=4) rfl ?_);refine bxA 4 #[.int .u64 0,.int .u64 0] 82 ?_;intro gb297 hg w24 hbox hb;have BK297:=Am (hbox);have GW297:=Am (gwA hg bA);have GE297:=Am (gwA hg bA);have NB295_297:=Am (neA (g:=gb295) hg kA);have NB297_295:=Am (neB (g:=gb295) hg kA);have NB296_297:=Am (neA (g:=gb296) hg kA);have NB297_296:=Am (neB (g:=gb296) hg kA);replace BK295:=Am (blk_below (g:=gb295) kA hb);replace BK296:=Am (blk_below (g:=gb296) kA hb);replace HB:=Am (below_step bA hb);clear hb hbox hg;have hnb25:=NB295_296.out;have hnc25:=NB296_295.out;have hnb26:=NB295_297.out;have hnc26:=NB297_295.out;obtain ⟨hcz27_0,hcz27_1,hfz27_0,hfz27_1⟩:=k2 BK295.out;have hnb28:=NB296_297.out;have hnc28:=NB297_296.out;obtain ⟨hcz29_0,hcz29_1,hfz29_0,hfz29_1⟩:=k2 BK296.out) | ((with_reducible refine gate_dst (N:=6) rfl ?_);refine bxA 6 #[.int .u64 0,.int .u64 0] 82 ?_;intro gb298 hg w30 hbox hb;have BK298:=Am (hbox);have GW298:=Am (gwA hg bA);have GE298:=Am (gwA hg bA);have NB295_298:=Am (neA (g:=gb295) hg kA);have NB298_295:=Am (neB (g:=gb295) hg kA);have NB296_298:=Am (neA (g:=gb296) hg kA);have NB298_296:=Am (neB (g:=gb296) hg kA);have NB297_298:=Am (neA (g:=gb297) hg kA);have NB298_297:=Am (neB (g:=gb297) hg kA);replace BK295:=Am (blk_below (g:=gb295) kA hb);replace BK296:=Am (blk_below (g:=gb296) kA hb);replace BK297:=Am (blk_below (g:=gb297) kA hb);replace HB:=Am (below_step bA hb);clear hb hbox hg;have hnb31:=NB298_295.out;have hnc31:=NB295_298.out;have hnb32:=NB298_296.out;have hnc32:=NB296_298.out;have hnb33:=NB298_297.out;have hnc33:=NB297_298.out;obtain ⟨hcz34_0,hcz34_1,hfz34_0,hfz34_1⟩:=k2 BK298.out;obtain ⟨hcz35_0,hcz35_1,hfz35_0,hfz35_1⟩:=k2 BK295.out) | ((with_reducible refine gate_callee (f:=85) rfl ?_);refine goesL_ (some 41) rfl rfl Tryz.func85 (by kernel_rfl) rfl #[] rfl aA ?_;(with_reducible refine (backfillref01_greatest.calls  t299 t300 _ A21.out).mono ?_);rintro e w36 ⟨rfl,hb⟩;refine ⟨_,rfl,?_⟩;replace BK295:=Am (blk_below (g:=gb295) (o:=.cells #[.int .u64 a0_0,.int .u64 a0_1] 82 (0,0)) kF hb);replace BK296:=Am (blk_below (g:=gb296) (o:=.cells #[.int .u64 a1_0,.int .u64 a1_1] 82 (0,0)) kF hb);replace BK297:=Am (blk_below (g:=gb297) (o:=.cells #[.int .u64 0,.int .u64 0] 82 (0,0)) kF hb);replace BK298:=Am (blk_below (g:=gb298) (o:=.cells #[.int .u64 (IntKind.u64.wrap ((IntKind.u64.wrap (a0_0 + a1_0)) + 1)),.int .u64 (IntKind.u64.wrap (a0_1 + a1_1))] 82 (0,0)) (by (with_reducible repeat (first | refine b1 ?_ _ | refine b2 ?_ | refine b3 ?_ _));refine blk_put (cs:=#[.int .u64 (IntKind.u64.wrap (a0_0 + a1_0)),.int .u64 (IntKind.u64.wrap (a0_1 + a1_1))]) ?_ 0 _ rfl;(with_reducible repeat (first | refine b1 ?_ _ | refine b2 ?_ | refine b3 ?_ _));refine blk_put (cs:=#[.int .u64 (IntKind.u64.wrap (a0_0 + a1_0)),.int .u64 0]) ?_ 1 _ rfl;(with_reducible repeat (first | refine b1 ?_ _ | refine b2 ?_ | refine b3 ?_ _));refine blk_put (cs:=#[.int .u64 0,.int .u64 0]) ?_ 0 _ rfl;exact kA) hb);replace HB:=Am (below_step bA hb);(try clear hb);obtain ⟨hcz37_0,hcz37_1,hfz37_0,hfz37_1⟩:=k2 BK297.out))
    refine bodyPost_ret (results_ct rfl _ _ gb297 82 #[.int .u64 t299,.int .u64 t300] (0,0) _ rfl (by (with_reducible repeat (first | refine b1 ?_ _ | refine b2 ?_ | refine b3 ?_ _));refine blk_put (cs:=#[.int .u64 t299,.int .u64 0]) ?_ 1 _ rfl;(with_reducible repeat (first | refine b1 ?_ _ | refine b2 ?_ | refine b3 ?_ _));refine blk_put (cs:=#[.int .u64 0,.int .u64 0]) ?_ 0 _ rfl;exact kA) Tryz.underlying82 rfl (by kernel_rfl)) rfl ?_
    exact eA
  ·rw [if_neg c4] at H
   have c4b0 : decide (a0_0 ≤ (IntKind.u64.wrap (a0_0 + a1_0))) = false:=decide_eq_false c4
   clear c4;obtain ⟨⟨t301,t302⟩,A38,H⟩:=bnd H;(try dsimp only at H)
   simp only [Option.some.injEq,Prod.mk.injEq] at H
   obtain ⟨rfl,rfl,rfl⟩:=H
   go_enter Tryz.func64,Tryz.ntmps64
   go_wp2_with (first | ((with_reducible refine gate_dst (N:=2) rfl ?_);refine bxA 2 #[.int .u64 a0_0,.int .u64 a0_1] 82 ?_;intro gb295 hg w39 hbox hb;have BK295:=Am (hbox);have GW295:=Am (gwA hg bA);have GE295:=Am (gwA hg bA);replace HB:=Am (below_step bA hb);clear hb hbox hg) | ((with_reducible refine gate_dst (N:=3) rfl ?_);refine bxA 3 #[.int .u64 a1_0,.int .u64 a1_1] 82 ?_;intro gb296 hg w40 hbox hb;have BK296:=Am (hbox);have GW296:=Am (gwA hg bA);have GE296:=Am (gwA hg bA);have NB295_296:=Am (neA (g:=gb295) hg kA);have NB296_295:=Am (neB (g:=gb295) hg kA);replace BK295:=Am (blk_below (g:=gb295) kA hb);replace HB:=Am (below_step bA hb);clear hb hbox hg) | ((with_reducible refine gate_dst (N:=4) rfl ?_);refine bxA 4 #[.int .u64 0,.int .u64 0] 82 ?_;intro gb297 hg w41 hbox hb;have BK297:=Am (hbox);have GW297:=Am (gwA hg bA);have GE297:=Am (gwA hg bA);have NB295_297:=Am (neA (g:=gb295) hg kA);have NB297_295:=Am (neB (g:=gb295) hg kA);have NB296_297:=Am (neA (g:=gb296) hg kA);have NB297_296:=Am (neB (g:=gb296) hg kA);replace BK295:=Am (blk_below (g:=gb295) kA hb);replace BK296:=Am (blk_below (g:=gb296) kA hb);replace HB:=Am (below_step bA hb);clear hb hbox hg;have hnb42:=NB295_296.out;have hnc42:=NB296_295.out;have hnb43:=NB295_297.out;have hnc43:=NB297_295.out;obtain ⟨hcz44_0,hcz44_1,hfz44_0,hfz44_1⟩:=k2 BK295.out;have hnb45:=NB296_297.out;have hnc45:=NB297_296.out;obtain ⟨hcz46_0,hcz46_1,hfz46_0,hfz46_1⟩:=k2 BK296.out) | ((with_reducible refine gate_dst (N:=6) rfl ?_);refine bxA 6 #[.int .u64 0,.int .u64 0] 82 ?_;intro gb298 hg w47 hbox hb;have BK298:=Am (hbox);have GW298:=Am (gwA hg bA);have GE298:=Am (gwA hg bA);have NB295_298:=Am (neA (g:=gb295) hg kA);have NB298_295:=Am (neB (g:=gb295) hg kA);have NB296_298:=Am (neA (g:=gb296) hg kA);have NB298_296:=Am (neB (g:=gb296) hg kA);have NB297_298:=Am (neA (g:=gb297) hg kA);have NB298_297:=Am (neB (g:=gb297) hg kA);replace BK295:=Am (blk_below (g:=gb295) kA hb);replace BK296:=Am (blk_below (g:=gb296) kA hb);replace BK297:=Am (blk_below (g:=gb297) kA hb);replace HB:=Am (below_step bA hb);clear hb hbox hg;have hnb48:=NB298_295.out;have hnc48:=NB295_298.out;have hnb49:=NB298_296.out;have hnc49:=NB296_298.out;have hnb50:=NB298_297.out;have hnc50:=NB297_298.out;obtain ⟨hcz51_0,hcz51_1,hfz51_0,hfz51_1⟩:=k2 BK298.out;obtain ⟨hcz52_0,hcz52_1,hfz52_0,hfz52_1⟩:=k2 BK295.out) | ((with_reducible refine gate_callee (f:=85) rfl ?_);refine goesL_ (some 41) rfl rfl Tryz.func85 (by kernel_rfl) rfl #[] rfl aA ?_;(with_reducible refine (backfillref01_greatest.calls  t301 t302 _ A38.out).mono ?_);rintro e w53 ⟨rfl,hb⟩;refine ⟨_,rfl,?_⟩;replace BK295:=Am (blk_below (g:=gb295) (o:=.cells #[.int .u64 a0_0,.int .u64 a0_1] 82 (0,0)) kF hb);replace BK296:=Am (blk_below (g:=gb296) (o:=.cells #[.int .u64 a1_0,.int .u64 a1_1] 82 (0,0)) kF hb);replace BK297:=Am (blk_below (g:=gb297) (o:=.cells #[.int .u64 0,.int .u64 0] 82 (0,0)) kF hb);replace BK298:=Am (blk_below (g:=gb298) (o:=.cells #[.int .u64 (IntKind.u64.wrap ((IntKind.u64.wrap (a0_0 + a1_0)) + 1)),.int .u64 (IntKind.u64.wrap (a0_1 + a1_1))] 82 (0,0)) (by (with_reducible repeat (first | refine b1 ?_ _ | refine b2 ?_ | refine b3 ?_ _));refine blk_put (cs:=#[.int .u64 (IntKind.u64.wrap (a0_0 + a1_0)),.int .u64 (IntKind.u64.wrap (a0_1 + a1_1))]) ?_ 0 _ rfl;(with_reducible repeat (first | refine b1 ?_ _ | refine b2 ?_ | refine b3 ?_ _));refine blk_put (cs:=#[.int .u64 (IntKind.u64.wrap (a0_0 + a1_0)),.int .u64 0]) ?_ 1 _ rfl;(with_reducible repeat (first | refine b1 ?_ _ | refine b2 ?_ | refine b3 ?_ _));refine blk_put (cs:=#[.int .u64 0,.int .u64 0]) ?_ 0 _ rfl;exact kA) hb);replace HB:=Am (below_step bA hb);(try clear hb);obtain ⟨hcz54_0,hcz54_1,hfz54_0,hfz54_1⟩:=k2 BK297.out))
   refine bodyPost_ret (results_ct rfl _ _ gb297 82 #[.int .u64 t301,.int .u64 t302] (0,0) _ rfl (by (with_reducible repeat (first | refine b1 ?_ _ | refine b2 ?_ | refine b3 ?_ _));refine blk_put (cs:=#[.int .u64 t301,.int .u64 0]) ?_ 1 _ rfl;(with_reducible repeat (first | refine b1 ?_ _ | refine b2 ?_ | refine b3 ?_ _));refine blk_put (cs:=#[.int .u64 0,.int .u64 0]) ?_ 0 _ rfl;exact kA) Tryz.underlying82 rfl (by kernel_rfl)) rfl ?_
   exact eA
 ·rw [if_neg c3] at H
  have c3b0 : decide ((IntKind.u64.wrap (a0_1 + a1_1)) < a0_1) = false:=decide_eq_false c3
  clear c3
  by_cases c55 : ((IntKind.u64.wrap (a0_0 + a1_0)) ≥ a0_0)
  ·rw [if_pos c55] at H
   have c55b0 : decide (a0_0 ≤ (IntKind.u64.wrap (a0_0 + a1_0))) = true:=decide_eq_true c55
   clear c55
   simp only [Option.some.injEq,Prod.mk.injEq] at H
   obtain ⟨rfl,rfl,rfl⟩:=H
   go_enter Tryz.func64,Tryz.ntmps64
   go_wp2_with (first | ((with_reducible refine gate_dst (N:=2) rfl ?_);refine bxA 2 #[.int .u64 a0_0,.int .u64 a0_1] 82 ?_;intro gb295 hg w56 hbox hb;have BK295:=Am (hbox);have GW295:=Am (gwA hg bA);have GE295:=Am (gwA hg bA);replace HB:=Am (below_step bA hb);clear hb hbox hg) | ((with_reducible refine gate_dst (N:=3) rfl ?_);refine bxA 3 #[.int .u64 a1_0,.int .u64 a1_1] 82 ?_;intro gb296 hg w57 hbox hb;have BK296:=Am (hbox);have GW296:=Am (gwA hg bA);have GE296:=Am (gwA hg bA);have NB295_296:=Am (neA (g:=gb295) hg kA);have NB296_295:=Am (neB (g:=gb295) hg kA);replace BK295:=Am (blk_below (g:=gb295) kA hb);replace HB:=Am (below_step bA hb);clear hb hbox hg) | ((with_reducible refine gate_dst (N:=4) rfl ?_);refine bxA 4 #[.int .u64 0,.int .u64 0] 82 ?_;intro gb297 hg w58 hbox hb;have BK297:=Am (hbox);have GW297:=Am (gwA hg bA);have GE297:=Am (gwA hg bA);have NB295_297:=Am (neA (g:=gb295) hg kA);have NB297_295:=Am (neB (g:=gb295) hg kA);have NB296_297:=Am (neA (g:=gb296) hg kA);have NB297_296:=Am (neB (g:=gb296) hg kA);replace BK295:=Am (blk_below (g:=gb295) kA hb);replace BK296:=Am (blk_below (g:=gb296) kA hb);replace HB:=Am (below_step bA hb);clear hb hbox hg;have hnb59:=NB295_296.out;have hnc59:=NB296_295.out;have hnb60:=NB295_297.out;have hnc60:=NB297_295.out;obtain ⟨hcz61_0,hcz61_1,hfz61_0,hfz61_1⟩:=k2 BK295.out;have hnb62:=NB296_297.out;have hnc62:=NB297_296.out;obtain ⟨hcz63_0,hcz63_1,hfz63_0,hfz63_1⟩:=k2 BK296.out) | ((with_reducible refine gate_dst (N:=6) rfl ?_);refine bxA 6 #[.int .u64 0,.int .u64 0] 82 ?_;intro gb298 hg w64 hbox hb;have BK298:=Am (hbox);have GW298:=Am (gwA hg bA);have GE298:=Am (gwA hg bA);have NB295_298:=Am (neA (g:=gb295) hg kA);have NB298_295:=Am (neB (g:=gb295) hg kA);have NB296_298:=Am (neA (g:=gb296) hg kA);have NB298_296:=Am (neB (g:=gb296) hg kA);have NB297_298:=Am (neA (g:=gb297) hg kA);have NB298_297:=Am (neB (g:=gb297) hg kA);replace BK295:=Am (blk_below (g:=gb295) kA hb);replace BK296:=Am (blk_below (g:=gb296) kA hb);replace BK297:=Am (blk_below (g:=gb297) kA hb);replace HB:=Am (below_step bA hb);clear hb hbox hg;have hnb65:=NB298_295.out;have hnc65:=NB295_298.out;have hnb66:=NB298_296.out;have hnc66:=NB296_298.out;have hnb67:=NB298_297.out;have hnc67:=NB297_298.out;obtain ⟨hcz68_0,hcz68_1,hfz68_0,hfz68_1⟩:=k2 BK298.out;obtain ⟨hcz69_0,hcz69_1,hfz69_0,hfz69_1⟩:=k2 BK295.out;obtain ⟨hcz70_0,hcz70_1,hfz70_0,hfz70_1⟩:=k2 BK297.out))
   refine bodyPost_ret (results_ct rfl _ _ gb297 82 #[.int .u64 (IntKind.u64.wrap (a0_0 + a1_0)),.int .u64 (IntKind.u64.wrap (a0_1 + a1_1))] (0,0) _ rfl (by (with_reducible repeat (first | refine b1 ?_ _ | refine b2 ?_ | refine b3 ?_ _));refine blk_put (cs:=#[.int .u64 (IntKind.u64.wrap (a0_0 + a1_0)),.int .u64 0]) ?_ 1 _ rfl;(with_reducible repeat (first | refine b1 ?_ _ | refine b2 ?_ | refine b3 ?_ _));refine blk_put (cs:=#[.int .u64 0,.int .u64 0]) ?_ 0 _ rfl;(with_reducible repeat (first | refine b1 ?_ _ | refine b2 ?_ | refine b3 ?_ _));refine blk_far ?_ NB297_298.out _;(with_reducible repeat (first | refine b1 ?_ _ | refine b2 ?_ | refine b3 ?_ _));refine blk_far ?_ NB297_298.out _;exact kA) Tryz.underlying82 rfl (by kernel_rfl)) rfl ?_
   exact eA
  ·rw [if_neg c55] at H
   have c55b0 : decide (a0_0 ≤ (IntKind.u64.wrap (a0_0 + a1_0))) = false:=decide_eq_false c55
   clear c55;obtain ⟨⟨t303,t304⟩,A71,H⟩:=bnd H;(try dsimp only at H)
   simp only [Option.some.injEq,Prod.mk.injEq] at H
   obtain ⟨rfl,rfl,rfl⟩:=H
   go_enter Tryz.func64,Tryz.ntmps64
   go_wp2_with (first | ((with_reducible refine gate_dst (N:=2) rfl ?_);refine bxA 2 #[.int .u64 a0_0,.int .u64 a0_1] 82 ?_;intro gb295 hg w72 hbox hb;have BK295:=Am (hbox);have GW295:=Am (gwA hg bA);have GE295:=Am (gwA hg bA);replace HB:=Am (below_step bA hb);clear hb hbox hg) | ((with_reducible refine gate_dst (N:=3) rfl ?_);refine bxA 3 #[.int .u64 a1_0,.int .u64 a1_1] 82 ?_;intro gb296 hg w73 hbox hb;have BK296:=Am (hbox);have GW296:=Am (gwA hg bA);have GE296:=Am (gwA hg bA);have NB295_296:=Am (neA (g:=gb295) hg kA);have NB296_295:=Am (neB (g:=gb295) hg kA);replace BK295:=Am (blk_below (g:=gb295) kA hb);replace HB:=Am (below_step bA hb);clear hb hbox hg) | ((with_reducible refine gate_dst (N:=4) rfl ?_);refine bxA 4 #[.int .u64 0,.int .u64 0] 82 ?_;intro gb297 hg w74 hbox hb;have BK297:=Am (hbox);have GW297:=Am (gwA hg bA);have GE297:=Am (gwA hg bA);have NB295_297:=Am (neA (g:=gb295) hg kA);have NB297_295:=Am (neB (g:=gb295) hg kA);have NB296_297:=Am (neA (g:=gb296) hg kA);have NB297_296:=Am (neB (g:=gb296) hg kA);replace BK295:=Am (blk_below (g:=gb295) kA hb);replace BK296:=Am (blk_below (g:=gb296) kA hb);replace HB:=Am (below_step bA hb);clear hb hbox hg;have hnb75:=NB295_296.out;have hnc75:=NB296_295.out;have hnb76:=NB295_297.out;have hnc76:=NB297_295.out;obtain ⟨hcz77_0,hcz77_1,hfz77_0,hfz77_1⟩:=k2 BK295.out;have hnb78:=NB296_297.out;have hnc78:=NB297_296.out;obtain ⟨hcz79_0,hcz79_1,hfz79_0,hfz79_1⟩:=k2 BK296.out) | ((with_reducible refine gate_dst (N:=6) rfl ?_);refine bxA 6 #[.int .u64 0,.int .u64 0] 82 ?_;intro gb298 hg w80 hbox hb;have BK298:=Am (hbox);have GW298:=Am (gwA hg bA);have GE298:=Am (gwA hg bA);have NB295_298:=Am (neA (g:=gb295) hg kA);have NB298_295:=Am (neB (g:=gb295) hg kA);have NB296_298:=Am (neA (g:=gb296) hg kA);have NB298_296:=Am (neB (g:=gb296) hg kA);have NB297_298:=Am (neA (g:=gb297) hg kA);have NB298_297:=Am (neB (g:=gb297) hg kA);replace BK295:=Am (blk_below (g:=gb295) kA hb);replace BK296:=Am (blk_below (g:=gb296) kA hb);replace BK297:=Am (blk_below (g:=gb297) kA hb);replace HB:=Am (below_step bA hb);clear hb hbox hg;have hnb81:=NB298_295.out;have hnc81:=NB295_298.out;have hnb82:=NB298_296.out;have hnc82:=NB296_298.out;have hnb83:=NB298_297.out;have hnc83:=NB297_298.out;obtain ⟨hcz84_0,hcz84_1,hfz84_0,hfz84_1⟩:=k2 BK298.out;obtain ⟨hcz85_0,hcz85_1,hfz85_0,hfz85_1⟩:=k2 BK295.out) | ((with_reducible refine gate_callee (f:=85) rfl ?_);refine goesL_ (some 41) rfl rfl Tryz.func85 (by kernel_rfl) rfl #[] rfl aA ?_;(with_reducible refine (backfillref01_greatest.calls  t303 t304 _ A71.out).mono ?_);rintro e w86 ⟨rfl,hb⟩;refine ⟨_,rfl,?_⟩;replace BK295:=Am (blk_below (g:=gb295) (o:=.cells #[.int .u64 a0_0,.int .u64 a0_1] 82 (0,0)) kF hb);replace BK296:=Am (blk_below (g:=gb296) (o:=.cells #[.int .u64 a1_0,.int .u64 a1_1] 82 (0,0)) kF hb);replace BK297:=Am (blk_below (g:=gb297) (o:=.cells #[.int .u64 0,.int .u64 0] 82 (0,0)) kF hb);replace BK298:=Am (blk_below (g:=gb298) (o:=.cells #[.int .u64 (IntKind.u64.wrap (a0_0 + a1_0)),.int .u64 (IntKind.u64.wrap (a0_1 + a1_1))] 82 (0,0)) (by (with_reducible repeat (first | refine b1 ?_ _ | refine b2 ?_ | refine b3 ?_ _));refine blk_put (cs:=#[.int .u64 (IntKind.u64.wrap (a0_0 + a1_0)),.int .u64 0]) ?_ 1 _ rfl;(with_reducible repeat (first | refine b1 ?_ _ | refine b2 ?_ | refine b3 ?_ _));refine blk_put (cs:=#[.int .u64 0,.int .u64 0]) ?_ 0 _ rfl;exact kA) hb);replace HB:=Am (below_step bA hb);(try clear hb);obtain ⟨hcz87_0,hcz87_1,hfz87_0,hfz87_1⟩:=k2 BK297.out))
   refine bodyPost_ret (results_ct rfl _ _ gb297 82 #[.int .u64 t303,.int .u64 t304] (0,0) _ rfl (by (with_reducible repeat (first | refine b1 ?_ _ | refine b2 ?_ | refine b3 ?_ _));refine blk_put (cs:=#[.int .u64 t303,.int .u64 0]) ?_ 1 _ rfl;(with_reducible repeat (first | refine b1 ?_ _ | refine b2 ?_ | refine b3 ?_ _));refine blk_put (cs:=#[.int .u64 0,.int .u64 0]) ?_ 0 _ rfl;exact kA) Tryz.underlying82 rfl (by kernel_rfl)) rfl ?_
   exact eA

def backfillref01_Times.f (a0_0 : Int) (a0_1 : Int) (a1 : Int) : Option (Int × Int × Bool):=(backfillref01_Mul.f a0_1 a1).bind fun bt307 => ((backfillref01_Mul.f a0_0 a1).bind fun bt310 => (if bt310.1 > 0 then ((backfillref01_greatest.f).bind fun bt313 => (some (bt313.1,bt313.2,false))) else ((backfillref01_Add.f bt307.1 bt307.2 bt310.2 0).bind fun bt315 => (some (bt315.1,bt315.2.1,bt315.2.2)))))
theorem backfillref01_Times.calls (a0_0 : Int) (a0_1 : Int) (a1 : Int) (r1 : Int) (r2 : Int) (r3 : Bool) (w : World) (h : backfillref01_Times.f a0_0 a0_1 a1 = some (r1,r2,r3)) :
  Calls Tryz.prog 50 #[.agg #[.int .u64 a0_0,.int .u64 a0_1],.int .u64 a1] w fun e w' => e = .returned (.tuple #[.agg #[.int .u64 r1,.int .u64 r2],.bool r3]) ∧ Below w.heap.size w w':=by
 have hu82:=Tryz.underlying82
 have HB:=Am (Below.refl w.heap.size w)
 have H : ((backfillref01_Mul.f a0_1 a1).bind fun bt307 => ((backfillref01_Mul.f a0_0 a1).bind fun bt310 => (if bt310.1 > 0 then ((backfillref01_greatest.f).bind fun bt313 => (some (bt313.1,bt313.2,false))) else ((backfillref01_Add.f bt307.1 bt307.2 bt310.2 0).bind fun bt315 => (some (bt315.1,bt315.2.1,bt315.2.2)))))) = some (r1,r2,r3):=h
 clear h;obtain ⟨⟨t307,t308⟩,A3,H⟩:=bnd H;(try dsimp only at H);obtain ⟨⟨t310,t311⟩,A4,H⟩:=bnd H;(try dsimp only at H)
 by_cases c5 : t310 > 0
 ·rw [if_pos c5] at H
  have c5b0 : decide (0 < t310) = true:=decide_eq_true c5
  clear c5;obtain ⟨⟨t313,t314⟩,A6,H⟩:=bnd H;(try dsimp only at H)
  simp only [Option.some.injEq,Prod.mk.injEq] at H
  obtain ⟨rfl,rfl,rfl⟩:=H
  go_enter Tryz.func50,Tryz.ntmps50
  go_wp2_with (first | ((with_reducible refine gate_dst (N:=2) rfl ?_);refine bxA 2 #[.int .u64 a0_0,.int .u64 a0_1] 82 ?_;intro gb305 hg w7 hbox hb;have BK305:=Am (hbox);have GW305:=Am (gwA hg bA);have GE305:=Am (gwA hg bA);replace HB:=Am (below_step bA hb);clear hb hbox hg) | ((with_reducible refine gate_dst (N:=4) rfl ?_);refine bxA 4 #[.int .u64 0,.int .u64 0] 82 ?_;intro gb306 hg w8 hbox hb;have BK306:=Am (hbox);have GW306:=Am (gwA hg bA);have GE306:=Am (gwA hg bA);have NB305_306:=Am (neA (g:=gb305) hg kA);have NB306_305:=Am (neB (g:=gb305) hg kA);replace BK305:=Am (blk_below (g:=gb305) kA hb);replace HB:=Am (below_step bA hb);clear hb hbox hg;have hnb9:=NB305_306.out;have hnc9:=NB306_305.out;obtain ⟨hcz10_0,hcz10_1,hfz10_0,hfz10_1⟩:=k2 BK305.out) | ((with_reducible refine gate_callee (f:=57) rfl ?_);refine goesL_ (some 11) rfl rfl Tryz.func57 (by kernel_rfl) rfl #[.int .u64 a0_1,.int .u64 a1] rfl aA ?_;(with_reducible refine (backfillref01_Mul.calls a0_1 a1 t307 t308 _ A3.out).mono ?_);rintro e w11 ⟨rfl,hb⟩;refine ⟨_,rfl,?_⟩;replace BK305:=Am (blk_below (g:=gb305) kA hb);replace BK306:=Am (blk_below (g:=gb306) kA hb);replace HB:=Am (below_step bA hb);(try clear hb)) | ((with_reducible refine gate_dst (N:=6) rfl ?_);refine bxA 6 #[.int .u64 0,.int .u64 0] 82 ?_;intro gb309 hg w12 hbox hb;have BK309:=Am (hbox);have GW309:=Am (gwA hg bA);have GE309:=Am (gwA hg bA);have NB305_309:=Am (neA (g:=gb305) hg kA);have NB309_305:=Am (neB (g:=gb305) hg kA);have NB306_309:=Am (neA (g:=gb306) hg kA);have NB309_306:=Am (neB (g:=gb306) hg kA);replace BK305:=Am (blk_below (g:=gb305) kA hb);replace BK306:=Am (blk_below (g:=gb306) kA hb);replace HB:=Am (below_step bA hb);clear hb hbox hg;have hnb13:=NB309_305.out;have hnc13:=NB305_309.out;have hnb14:=NB309_306.out;have hnc14:=NB306_309.out;obtain ⟨hcz15_0,hcz15_1,hfz15_0,hfz15_1⟩:=k2 BK309.out;obtain ⟨hcz16_0,hcz16_1,hfz16_0,hfz16_1⟩:=k2 BK305.out) | ((with_reducible refine gate_callee (f:=57) rfl ?_);refine goesL_ (some 15) rfl rfl Tryz.func57 (by kernel_rfl) rfl #[.int .u64 a0_0,.int .u64 a1] rfl aA ?_;(with_reducible refine (backfillref01_Mul.calls a0_0 a1 t310 t311 _ A4.out).mono ?_);rintro e w17 ⟨rfl,hb⟩;refine ⟨_,rfl,?_⟩;replace BK305:=Am (blk_below (g:=gb305) (o:=.cells #[.int .u64 a0_0,.int .u64 a0_1] 82 (0,0)) kF hb);replace BK306:=Am (blk_below (g:=gb306) (o:=.cells #[.int .u64 0,.int .u64 0] 82 (0,0)) kF hb);replace BK309:=Am (blk_below (g:=gb309) (o:=.cells #[.int .u64 t307,.int .u64 t308] 82 (0,0)) (by (with_reducible repeat (first | refine b1 ?_ _ | refine b2 ?_ | refine b3 ?_ _));refine blk_put (cs:=#[.int .u64 t307,.int .u64 0]) ?_ 1 _ rfl;(with_reducible repeat (first | refine b1 ?_ _ | refine b2 ?_ | refine b3 ?_ _));refine blk_put (cs:=#[.int .u64 0,.int .u64 0]) ?_ 0 _ rfl;exact kA) hb);replace HB:=Am (below_step bA hb);(try clear hb)) | ((with_reducible refine gate_dst (N:=7) rfl ?_);refine bxA 7 #[.int .u64 0,.int .u64 0] 82 ?_;intro gb312 hg w18 hbox hb;have BK312:=Am (hbox);have GW312:=Am (gwA hg bA);have GE312:=Am (gwA hg bA);have NB305_312:=Am (neA (g:=gb305) hg kA);have NB312_305:=Am (neB (g:=gb305) hg kA);have NB306_312:=Am (neA (g:=gb306) hg kA);have NB312_306:=Am (neB (g:=gb306) hg kA);have NB309_312:=Am (neA (g:=gb309) hg kA);have NB312_309:=Am (neB (g:=gb309) hg kA);replace BK305:=Am (blk_below (g:=gb305) kA hb);replace BK306:=Am (blk_below (g:=gb306) kA hb);replace BK309:=Am (blk_below (g:=gb309) kA hb);replace HB:=Am (below_step bA hb);clear hb hbox hg;have hnb19:=NB312_305.out;have hnc19:=NB305_312.out;have hnb20:=NB312_306.out;have hnc20:=NB306_312.out;have hnb21:=NB312_309.out;have hnc21:=NB309_312.out;obtain ⟨hcz22_0,hcz22_1,hfz22_0,hfz22_1⟩:=k2 BK312.out) | ((with_reducible refine gate_callee (f:=85) rfl ?_);refine goesL_ (some 19) rfl rfl Tryz.func85 (by kernel_rfl) rfl #[] rfl aA ?_;(with_reducible refine (backfillref01_greatest.calls  t313 t314 _ A6.out).mono ?_);rintro e w23 ⟨rfl,hb⟩;refine ⟨_,rfl,?_⟩;replace BK305:=Am (blk_below (g:=gb305) (o:=.cells #[.int .u64 a0_0,.int .u64 a0_1] 82 (0,0)) kF hb);replace BK306:=Am (blk_below (g:=gb306) (o:=.cells #[.int .u64 0,.int .u64 0] 82 (0,0)) kF hb);replace BK309:=Am (blk_below (g:=gb309) (o:=.cells #[.int .u64 t307,.int .u64 t308] 82 (0,0)) kF hb);replace BK312:=Am (blk_below (g:=gb312) (o:=.cells #[.int .u64 t310,.int .u64 t311] 82 (0,0)) (by (with_reducible repeat (first | refine b1 ?_ _ | refine b2 ?_ | refine b3 ?_ _));refine blk_put (cs:=#[.int .u64 t310,.int .u64 0]) ?_ 1 _ rfl;(with_reducible repeat (first | refine b1 ?_ _ | refine b2 ?_ | refine b3 ?_ _));refine blk_put (cs:=#[.int .u64 0,.int .u64 0]) ?_ 0 _ rfl;exact kA) hb);replace HB:=Am (below_step bA hb);(try clear hb);obtain ⟨hcz24_0,hcz24_1,hfz24_0,hfz24_1⟩:=k2 BK306.out))
  refine bodyPost_ret (results_ct rfl _ _ gb306 82 #[.int .u64 t313,.int .u64 t314] (0,0) _ rfl (by (with_reducible repeat (first | refine b1 ?_ _ | refine b2 ?_ | refine b3 ?_ _));refine blk_put (cs:=#[.int .u64 t313,.int .u64 0]) ?_ 1 _ rfl;(with_reducible repeat (first | refine b1 ?_ _ | refine b2 ?_ | refine b3 ?_ _));refine blk_put (cs:=#[.int .u64 0,.int .u64 0]) ?_ 0 _ rfl;exact kA) Tryz.underlying82 rfl (by kernel_rfl)) rfl ?_
  exact eA
 ·rw [if_neg c5] at H
  have c5b0 : decide (0 < t310) = false:=decide_eq_false c5
  clear c5;obtain ⟨⟨t315,t316,t317⟩,A25,H⟩:=bnd H;(try dsimp only at H)
  simp only [Option.some.injEq,Prod.mk.injEq] at H
  obtain ⟨rfl,rfl,rfl⟩:=H
  go_enter Tryz.func50,Tryz.ntmps50
  go_wp2_with (first | ((with_reducible refine gate_dst (N:=2) rfl ?_);refine bxA 2 #[.int .u64 a0_0,.int .u64 a0_1] 82 ?_;intro gb305 hg w26 hbox hb;have BK305:=Am (hbox);have GW305:=Am (gwA hg bA);have GE305:=Am (gwA hg bA);replace HB:=Am (below_step bA hb);clear hb hbox hg) | ((with_reducible refine gate_dst (N:=4) rfl ?_);refine bxA 4 #[.int .u64 0,.int .u64 0] 82 ?_;intro gb306 hg w27 hbox hb;have BK306:=Am (hbox);have GW306:=Am (gwA hg bA);have GE306:=Am (gwA hg bA);have NB305_306:=Am (neA (g:=gb305) hg kA);have NB306_305:=Am (neB (g:=gb305) hg kA);replace BK305:=Am (blk_below (g:=gb305) kA hb);replace HB:=Am (below_step bA hb);clear hb hbox hg;have hnb28:=NB305_306.out;have hnc28:=NB306_305.out;obtain ⟨hcz29_0,hcz29_1,hfz29_0,hfz29_1⟩:=k2 BK305.out) | ((with_reducible refine gate_callee (f:=57) rfl ?_);refine goesL_ (some 11) rfl rfl Tryz.func57 (by kernel_rfl) rfl #[.int .u64 a0_1,.int .u64 a1] rfl aA ?_;(with_reducible refine (backfillref01_Mul.calls a0_1 a1 t307 t308 _ A3.out).mono ?_);rintro e w30 ⟨rfl,hb⟩;refine ⟨_,rfl,?_⟩;replace BK305:=Am (blk_below (g:=gb305) kA hb);replace BK306:=Am (blk_below (g:=gb306) kA hb);replace HB:=Am (below_step bA hb);(try clear hb)) | ((with_reducible refine gate_dst (N:=6) rfl ?_);refine bxA 6 #[.int .u64 0,.int .u64 0] 82 ?_;intro gb309 hg w31 hbox hb;have BK309:=Am (hbox);have GW309:=Am (gwA hg bA);have GE309:=Am (gwA hg bA);have NB305_309:=Am (neA (g:=gb305) hg kA);have NB309_305:=Am (neB (g:=gb305) hg kA);have NB306_309:=Am (neA (g:=gb306) hg kA);have NB309_306:=Am (neB (g:=gb306) hg kA);replace BK305:=Am (blk_below (g:=gb305) kA hb);replace BK306:=Am (blk_below (g:=gb306) kA hb);replace HB:=Am (below_step bA hb);clear hb hbox hg;have hnb32:=NB309_305.out;have hnc32:=NB305_309.out;have hnb33:=NB309_306.out;have hnc33:=NB306_309.out;obtain ⟨hcz34_0,hcz34_1,hfz34_0,hfz34_1⟩:=k2 BK309.out;obtain ⟨hcz35_0,hcz35_1,hfz35_0,hfz35_1⟩:=k2 BK305.out) | ((with_reducible refine gate_callee (f:=57) rfl ?_);refine goesL_ (some 15) rfl rfl Tryz.func57 (by kernel_rfl) rfl #[.int .u64 a0_0,.int .u64 a1] rfl aA ?_;(with_reducible refine (backfillref01_Mul.calls a0_0 a1 t310 t311 _ A4.out).mono ?_);rintro e w36 ⟨rfl,hb⟩;refine ⟨_,rfl,?_⟩;replace BK305:=Am (blk_below (g:=gb305) (o:=.cells #[.int .u64 a0_0,.int .u64 a0_1] 82 (0,0)) kF hb);replace BK306:=Am (blk_below (g:=gb306) (o:=.cells #[.int .u64 0,.int .u64 0] 82 (0,0)) kF hb);replace BK309:=Am (blk_below (g:=gb309) (o:=.cells #[.int .u64 t307,.int .u64 t308] 82 (0,0)) (by (with_reducible repeat (first | refine b1 ?_ _ | refine b2 ?_ | refine b3 ?_ _));refine blk_put (cs:=#[.int .u64 t307,.int .u64 0]) ?_ 1 _ rfl;(with_reducible repeat (first | refine b1 ?_ _ | refine b2 ?_ | refine b3 ?_ _));refine blk_put (cs:=#[.int .u64 0,.int .u64 0]) ?_ 0 _ rfl;exact kA) hb);replace HB:=Am (below_step bA hb);(try clear hb)) | ((with_reducible refine gate_dst (N:=7) rfl ?_);refine bxA 7 #[.int .u64 0,.int .u64 0] 82 ?_;intro gb312 hg w37 hbox hb;have BK312:=Am (hbox);have GW312:=Am (gwA hg bA);have GE312:=Am (gwA hg bA);have NB305_312:=Am (neA (g:=gb305) hg kA);have NB312_305:=Am (neB (g:=gb305) hg kA);have NB306_312:=Am (neA (g:=gb306) hg kA);have NB312_306:=Am (neB (g:=gb306) hg kA);have NB309_312:=Am (neA (g:=gb309) hg kA);have NB312_309:=Am (neB (g:=gb309) hg kA);replace BK305:=Am (blk_below (g:=gb305) kA hb);replace BK306:=Am (blk_below (g:=gb306) kA hb);replace BK309:=Am (blk_below (g:=gb309) kA hb);replace HB:=Am (below_step bA hb);clear hb hbox hg;have hnb38:=NB312_305.out;have hnc38:=NB305_312.out;have hnb39:=NB312_306.out;have hnc39:=NB306_312.out;have hnb40:=NB312_309.out;have hnc40:=NB309_312.out;obtain ⟨hcz41_0,hcz41_1,hfz41_0,hfz41_1⟩:=k2 BK312.out;obtain ⟨hcz42_0,hcz42_1,hfz42_0,hfz42_1⟩:=k2 BK309.out) | ((with_reducible refine gate_callee (f:=64) rfl ?_);refine goesL_ (some 24) rfl rfl Tryz.func64 (by kernel_rfl) rfl #[.agg #[.int .u64 t307,.int .u64 t308],.agg #[.int .u64 t311,.int .u64 0]] rfl aA ?_;(with_reducible refine (backfillref01_Add.calls t307 t308 t311 0 t315 t316 t317 _ A25.out).mono ?_);rintro e w43 ⟨rfl,hb⟩;refine ⟨_,rfl,?_⟩;replace BK305:=Am (blk_below (g:=gb305) (o:=.cells #[.int .u64 a0_0,.int .u64 a0_1] 82 (0,0)) kF hb);replace BK306:=Am (blk_below (g:=gb306) (o:=.cells #[.int .u64 0,.int .u64 0] 82 (0,0)) kF hb);replace BK309:=Am (blk_below (g:=gb309) (o:=.cells #[.int .u64 t307,.int .u64 t308] 82 (0,0)) kF hb);replace BK312:=Am (blk_below (g:=gb312) (o:=.cells #[.int .u64 t310,.int .u64 t311] 82 (0,0)) (by (with_reducible repeat (first | refine b1 ?_ _ | refine b2 ?_ | refine b3 ?_ _));refine blk_put (cs:=#[.int .u64 t310,.int .u64 0]) ?_ 1 _ rfl;(with_reducible repeat (first | refine b1 ?_ _ | refine b2 ?_ | refine b3 ?_ _));refine blk_put (cs:=#[.int .u64 0,.int .u64 0]) ?_ 0 _ rfl;exact kA) hb);replace HB:=Am (below_step bA hb);(try clear hb);obtain ⟨hcz44_0,hcz44_1,hfz44_0,hfz44_1⟩:=k2 BK306.out))
  refine bodyPost_ret (results_ct rfl _ _ gb306 82 #[.int .u64 t315,.int .u64 t316] (0,0) _ rfl (by (with_reducible repeat (first | refine b1 ?_ _ | refine b2 ?_ | refine b3 ?_ _));refine blk_put (cs:=#[.int .u64 t315,.int .u64 0]) ?_ 1 _ rfl;(with_reducible repeat (first | refine b1 ?_ _ | refine b2 ?_ | refine b3 ?_ _));refine blk_put (cs:=#[.int .u64 0,.int .u64 0]) ?_ 0 _ rfl;exact kA) Tryz.underlying82 rfl (by kernel_rfl)) rfl ?_
  exact eA

def backfillref01_Of.f (a0 : Int) : Option (Int × Int):=some (0,a0)
theorem backfillref01_Of.calls (a0 : Int) (r1 : Int) (r2 : Int) (w : World) (h : backfillref01_Of.f a0 = some (r1,r2)) :
  Calls Tryz.prog 63 #[.int .u64 a0] w fun e w' => e = .returned (.agg #[.int .u64 r1,.int .u64 r2]) ∧ Below w.heap.size w w':=by
 have hu82:=Tryz.underlying82
 have HB:=Am (Below.refl w.heap.size w)
 have H : (some (0,a0)) = some (r1,r2):=h
 clear h
 simp only [Option.some.injEq,Prod.mk.injEq] at H
 obtain ⟨rfl,rfl⟩:=H
 go_enter Tryz.func63,Tryz.ntmps63
 go_wp2_with (first | ((with_reducible refine gate_dst (N:=2) rfl ?_);refine bxA 2 #[.int .u64 0,.int .u64 0] 82 ?_;intro gb318 hg w2 hbox hb;have BK318:=Am (hbox);have GW318:=Am (gwA hg bA);have GE318:=Am (gwA hg bA);replace HB:=Am (below_step bA hb);clear hb hbox hg;obtain ⟨hcz3_0,hcz3_1,hfz3_0,hfz3_1⟩:=k2 BK318.out))
 refine bodyPost_ret (results_cell_row rfl _ _ gb318 82 #[.int .u64 0,.int .u64 a0] (0,0) _ rfl (by (with_reducible repeat (first | refine b1 ?_ _ | refine b2 ?_ | refine b3 ?_ _));refine blk_put (cs:=#[.int .u64 0,.int .u64 0]) ?_ 1 _ rfl;(with_reducible repeat (first | refine b1 ?_ _ | refine b2 ?_ | refine b3 ?_ _));refine blk_put (cs:=#[.int .u64 0,.int .u64 0]) ?_ 0 _ rfl;exact kA) Tryz.underlying82 rfl (by kernel_rfl)) rfl ?_
 exact eA

end Go.Proofs.YtbhijfbjdbjpbaaGreatDoor.GSH
namespace Go.Proofs.YtbhijfbjdbjpbaaGreatDoor.Q
open Go.RowKit Go.Proofs.YtbhijfbjdbjpbaaGreatDoor.GSH Go.Proofs.YtbhijfbjdbjpbaaGreatDoorW.PrintWords Go.Proofs.YtbhijfbjdbjpbaaGreatDoorW.PrintLast Go.Proofs.YtbhijfbjdbjpbaaGreatDoorW.PrintMore
theorem rmul {a b : Int} (ha : U a) (hb : U b) : backfillref01_Mul.f a b = some (a * b / 18446744073709551616,a * b % 18446744073709551616):=by
  unfold backfillref01_Mul.f
  have e:=mul_halves a b
  obtain ⟨a0,a1⟩:=ha
  obtain ⟨b0,b1⟩:=hb
  rw [and32 ⟨a0,a1⟩,and32 ⟨b0,b1⟩]
  have p1:=half_bd (x:=a / 4294967296) (y:=b / 4294967296) (by omega) (by omega) (by omega) (by omega)
  have p2:=half_bd (x:=a / 4294967296) (y:=b % 4294967296) (by omega) (by omega) (by omega) (by omega)
  have p3:=half_bd (x:=a % 4294967296) (y:=b / 4294967296) (by omega) (by omega) (by omega) (by omega)
  have p4:=half_bd (x:=a % 4294967296) (y:=b % 4294967296) (by omega) (by omega) (by omega) (by omega)
  generalize (a / 4294967296) * (b / 4294967296) = x1 at *
  generalize (a / 4294967296) * (b % 4294967296) = x2 at *
  generalize (a % 4294967296) * (b / 4294967296) = x3 at *
  generalize (a % 4294967296) * (b % 4294967296) = x4 at *
  generalize a * b = y at *
  rw [w64_in (x:=x4) (by omega) (by omega),w64_in (x:=x2) (by omega) (by omega),w64_in (x:=x3) (by omega) (by omega),w64_in (x:=x1) (by omega) (by omega)]
  rw [and32 (x:=x2) ⟨by omega,by omega⟩,and32 (x:=x3) ⟨by omega,by omega⟩,and32 (x:=x4) ⟨by omega,by omega⟩]
  simp only [w64]
  congr 2 <;> omega
theorem radd {ah al bh bl : Int} (h1 : U ah) (h2 : U al) (h3 : U bh) (h4 : U bl) : backfillref01_Add.f ah al bh bl = some (addV (V ah al) (V bh bl)):=by
  unfold backfillref01_Add.f backfillref01_greatest.f addV V
  obtain ⟨h1a,h1b⟩:=h1;obtain ⟨h2a,h2b⟩:=h2;obtain ⟨h3a,h3b⟩:=h3;obtain ⟨h4a,h4b⟩:=h4
  simp only [Option.bind_some,w64]
  by_cases hl : (al + bl) % 18446744073709551616 < al
  · rw [if_pos hl]
    by_cases hh : (ah + bh) % 18446744073709551616 ≥ ah
    · rw [if_pos hh]
      by_cases hz : ((ah + bh) % 18446744073709551616 + 1) % 18446744073709551616 > 0
      · rw [if_pos hz,if_pos (by omega)]
        congr 2
        · omega
        · congr 1
          omega
      · rw [if_neg hz,if_neg (by omega)]
    · rw [if_neg hh,if_neg (by omega)]
  · rw [if_neg hl]
    by_cases hh : (ah + bh) % 18446744073709551616 ≥ ah
    · rw [if_pos hh,if_pos (by omega)]
      congr 2
      · omega
      · congr 1
        omega
    · rw [if_neg hh,if_neg (by omega)]
theorem rtimes {h l y : Int} (hh : U h) (hl : U l) (hy : U y) : backfillref01_Times.f h l y = some (timesV h l y):=by
  unfold backfillref01_Times.f timesV
  rw [rmul hl hy,rmul hh hy]
  simp only [Option.bind_some]
  have m1:=mul_bd hl hy
  by_cases c : h * y / 18446744073709551616 > 0
  · rw [if_pos c,if_pos c];rfl
  · rw [if_neg c,if_neg c,radd ⟨by omega,by omega⟩ (umod' _) (umod' _) ⟨by omega,by omega⟩]
    simp only [Option.bind_some]
    rw [show V (l * y / 18446744073709551616) (l * y % 18446744073709551616) = l * y by unfold V;omega]
end Go.Proofs.YtbhijfbjdbjpbaaGreatDoor.Q
namespace Go.Proofs.YtbhijfbjdbjpbaaGreatDoor.GSH
open Go.RowKit Go.Proofs.YtbhijfbjdbjpbaaGreatDoorW.PrintWords Go.Proofs.YtbhijfbjdbjpbaaGreatDoorW.PrintLast Go.Proofs.YtbhijfbjdbjpbaaGreatDoorW.PrintMore
attribute [local go_sem] max2_int min2_int max_two min_two max_three min_three max_four min_four   -- for this text's walks alone
set_option linter.unusedVariables false
set_option linter.unusedSimpArgs false
theorem eqA82 (d : Nat) (w : World) (x0 y0 : Int) (x1 y1 : Int) :
  (Op.equalIn (d + 2) 82 (.agg #[.int .u64 x0,.int .u64 x1]) (.agg #[.int .u64 y0,.int .u64 y1])).run Tryz.prog w = .ok (x0 == y0 && (x1 == y1)) w:=by
 refine eqA_of Tryz.underlying82 (by kernel_rfl) ?_
 refine eqf_cons (by rfl) (by go_simp;rfl) (by go_simp;rfl) (by go_simp) ?_
 exact eqf_last (by rfl) (by go_simp;rfl) (by go_simp;rfl) (by go_simp)
end Go.Proofs.YtbhijfbjdbjpbaaGreatDoor.GSH
namespace Go.Proofs.YtbhijfbjdbjpbaaGreatDoor.GSH
open Go.RowKit Go.Proofs.YtbhijfbjdbjpbaaGreatDoorW.PrintWords Go.Proofs.YtbhijfbjdbjpbaaGreatDoorW.PrintLast Go.Proofs.YtbhijfbjdbjpbaaGreatDoorW.PrintMore
attribute [local go_sem] max2_int min2_int max_two min_two max_three min_three max_four min_four   -- for this text's walks alone
set_option linter.unusedVariables false
set_option linter.unusedSimpArgs false
attribute [local go_sem high] eqA82
def backfillref01_Cmp.j0 : Nat → Bool → Int → Int → Int → Int → Option (Int)
 | 0,_,_,_,_,_ => none
 | k + 1,x23,x352000,x352001,x353000,x353001 => if x23 = true then (some (-1)) else (if (x352000 == x353000 && (x352001 == x353001)) = true then (some 0) else (some 1))
def backfillref01_Cmp.f (k : Nat) (a0_0 : Int) (a0_1 : Int) (a1_0 : Int) (a1_1 : Int) : Option (Int):=if a0_0 < a1_0 then (backfillref01_Cmp.j0 k true a0_0 a0_1 a1_0 a1_1) else (if a0_0 = a1_0 then (backfillref01_Cmp.j0 k (decide (a0_1 < a1_1)) a0_0 a0_1 a1_0 a1_1) else (backfillref01_Cmp.j0 k false a0_0 a0_1 a1_0 a1_1))
theorem backfillref01_Cmp.mono_l : ∀ k,(∀ y0 y1 y2 y3 y4,LeO (backfillref01_Cmp.j0 k y0 y1 y2 y3 y4) (backfillref01_Cmp.j0 (k + 1) y0 y1 y2 y3 y4))
 | 0 => fun _ _ _ _ _ r h => by simp [backfillref01_Cmp.j0] at h
 | k + 1 => by
  have ih0:=backfillref01_Cmp.mono_l k
  ·intro y0 y1 y2 y3 y4
   unfold backfillref01_Cmp.j0
   repeat' first
   | (with_reducible exact ih0 _ _ _ _ _)
   | (with_reducible exact LeO.refl _)
   | (with_reducible exact LeO.none _)
   | (with_reducible refine LeO.ite ?_ ?_)
   | (with_reducible refine LeO.bind ?_ (fun _ => ?_))
   | exact ih0 _ _ _ _ _
   | exact LeO.none _
   | refine LeO.ite ?_ ?_
   | refine LeO.bind ?_ (fun _ => ?_)
theorem backfillref01_Cmp.mono : ∀ a0 a1 a2 a3 k,LeO (backfillref01_Cmp.f k a0 a1 a2 a3) (backfillref01_Cmp.f (k + 1) a0 a1 a2 a3):=by
 intro a0 a1 a2 a3 k
 have ih0:=backfillref01_Cmp.mono_l k
 unfold backfillref01_Cmp.f
 repeat' first
   | (with_reducible exact ih0 _ _ _ _ _)
   | (with_reducible exact LeO.refl _)
   | (with_reducible exact LeO.none _)
   | (with_reducible refine LeO.ite ?_ ?_)
   | (with_reducible refine LeO.bind ?_ (fun _ => ?_))
   | exact ih0 _ _ _ _ _
   | exact LeO.none _
   | refine LeO.ite ?_ ?_
   | refine LeO.bind ?_ (fun _ => ?_)
theorem backfillref01_Cmp.calls (k : Nat) (a0_0 : Int) (a0_1 : Int) (a1_0 : Int) (a1_1 : Int) (r : Int) (w : World) (h : backfillref01_Cmp.f k a0_0 a0_1 a1_0 a1_1 = some r) :
  Calls Tryz.prog 52 #[.agg #[.int .u64 a0_0,.int .u64 a0_1],.agg #[.int .u64 a1_0,.int .u64 a1_1]] w fun e w' => e = .returned (.int .i64 r) ∧ Below w.heap.size w w':=by
 have hu82:=Tryz.underlying82
 have HB:=Am (Below.refl w.heap.size w)
 have H : (if a0_0 < a1_0 then (backfillref01_Cmp.j0 k true a0_0 a0_1 a1_0 a1_1) else (if a0_0 = a1_0 then (backfillref01_Cmp.j0 k (decide (a0_1 < a1_1)) a0_0 a0_1 a1_0 a1_1) else (backfillref01_Cmp.j0 k false a0_0 a0_1 a1_0 a1_1))) = some r:=h
 clear h
 have HC3:=Aside0.mk H
 clear H
 go_enter Tryz.func52,Tryz.ntmps52
 go_upto_region 1 with (first | ((with_reducible refine gate_dst (N:=2) rfl ?_);refine bxA 2 #[.int .u64 a0_0,.int .u64 a0_1] 82 ?_;intro gb351 hg w4 hbox hb;have BK351:=Am (hbox);have GW351:=Am (gwA hg bA);have GE351:=Am (gwA hg bA);replace HB:=Am (below_step bA hb);clear hb hbox hg) | ((with_reducible refine gate_dst (N:=3) rfl ?_);refine bxA 3 #[.int .u64 a1_0,.int .u64 a1_1] 82 ?_;intro gb352 hg w5 hbox hb;have BK352:=Am (hbox);have GW352:=Am (gwA hg bA);have GE352:=Am (gwA hg bA);have NB351_352:=Am (neA (g:=gb351) hg kA);have NB352_351:=Am (neB (g:=gb351) hg kA);replace BK351:=Am (blk_below (g:=gb351) kA hb);replace HB:=Am (below_step bA hb);clear hb hbox hg))
 (try simp only [Act.put,List.setIfInBounds_toArray,List.set_cons_zero,List.set_cons_succ])
 go_cut [23] (fun v23 wc => ∃ (kq : Nat) (x23_2 : Bool),v23 = .bool x23_2 ∧ Aside0 (backfillref01_Cmp.j0 kq x23_2 a0_0 a0_1 a1_0 a1_1 = some r) ∧ Aside0 (kq ≤ k) ∧ Aside0 (wc.heap[gb351]? = some (.cells #[.int .u64 a0_0,.int .u64 a0_1] 82 (0,0))) ∧ Aside0 (wc.heap[gb352]? = some (.cells #[.int .u64 a1_0,.int .u64 a1_1] 82 (0,0))) ∧ Aside0 (Below w.heap.size w wc))
 case first =>
  have H:=HC3.out
  clear HC3
  by_cases c6 : a0_0 < a1_0
  ·rw [if_pos c6] at H
   have c6b0 : decide (a0_0 < a1_0) = true:=decide_eq_true c6
   clear c6
   (first | rw [c6b0] | (simp only [i64_w,i32_w];rw [c6b0]) | skip)
   have H':=Aside0.mk H
   clear H
   have hnb7:=NB351_352.out
   have hnc7:=NB352_351.out
   obtain ⟨hcz8_0,hcz8_1,hfz8_0,hfz8_1⟩:=k2 BK351.out
   obtain ⟨hcz9_0,hcz9_1,hfz9_0,hfz9_1⟩:=k2 BK352.out
   go_wp2
   go_meet
   case rel => exact ⟨_,(true),(by first | rfl | (simp;done) | (simp [*];done)),H',⟨by first | omega | exact Nat.le_refl _⟩,⟨by exact kA⟩,⟨by exact kA⟩,⟨bA⟩⟩
  ·rw [if_neg c6] at H
   have c6b0 : decide (a0_0 < a1_0) = false:=decide_eq_false c6
   clear c6
   (first | rw [c6b0] | (simp only [i64_w,i32_w];rw [c6b0]) | skip)
   by_cases c10 : a0_0 = a1_0
   ·rw [if_pos c10] at H
    have c10b0 : (a0_0 == a1_0) = true:=beq_iff_eq.mpr c10
    have c10b1 : (a0_0 != a1_0) = false:=bne_eq_false_iff_eq.mpr c10
    clear c10
    have H':=Aside0.mk H
    clear H
    have hnb11:=NB351_352.out
    have hnc11:=NB352_351.out
    obtain ⟨hcz12_0,hcz12_1,hfz12_0,hfz12_1⟩:=k2 BK351.out
    obtain ⟨hcz13_0,hcz13_1,hfz13_0,hfz13_1⟩:=k2 BK352.out
    go_wp2
    go_meet
    case rel => exact ⟨_,(decide (a0_1 < a1_1)),(by first | rfl | (simp;done) | (simp [*];done)),H',⟨by first | omega | exact Nat.le_refl _⟩,⟨by exact kA⟩,⟨by exact kA⟩,⟨bA⟩⟩
   ·rw [if_neg c10] at H
    have c10b0 : (a0_0 == a1_0) = false:=beq_eq_false_iff_ne.mpr c10
    have c10b1 : (a0_0 != a1_0) = true:=bne_iff_ne.mpr c10
    have H':=Aside0.mk H
    clear H
    have hnb14:=NB351_352.out
    have hnc14:=NB352_351.out
    obtain ⟨hcz15_0,hcz15_1,hfz15_0,hfz15_1⟩:=k2 BK351.out
    obtain ⟨hcz16_0,hcz16_1,hfz16_0,hfz16_1⟩:=k2 BK352.out
    go_wp2
    go_meet
    case rel => exact ⟨_,(false),(by first | rfl | (simp;done) | (simp [*];done)),H',⟨by first | omega | exact Nat.le_refl _⟩,⟨by exact kA⟩,⟨by exact kA⟩,⟨bA⟩⟩
 case rest =>
  clear HC3
  try clear c1
  try clear p2
  try clear c5
  try clear c6
  try clear c6b0
  try clear c7
  try clear c10
  try clear c10b0
  try clear c10b1
  try clear c11
  try clear c14
  try clear hcz12_0
  try clear hcz12_1
  try clear hcz13_0
  try clear hcz13_1
  try clear hcz15_0
  try clear hcz15_1
  try clear hcz16_0
  try clear hcz16_1
  try clear hcz8_0
  try clear hcz8_1
  try clear hcz9_0
  try clear hcz9_1
  try clear hfz12_0
  try clear hfz12_1
  try clear hfz13_0
  try clear hfz13_1
  try clear hfz15_0
  try clear hfz15_1
  try clear hfz16_0
  try clear hfz16_1
  try clear hfz8_0
  try clear hfz8_1
  try clear hfz9_0
  try clear hfz9_1
  obtain ⟨kq,x23_2,rfl,HA,HJ2,BK351,BK352,HB⟩:=hcut
  cases kq with
  | zero => exact absurd HA.out (by simp [backfillref01_Cmp.j0])
  | succ kj2 =>
   have H:=HA.out
   clear HA
   simp only [backfillref01_Cmp.j0] at H
   by_cases c17 : x23_2 = true
   ·subst c17
    have H1 : (some (-1)) = some r:=by rw [if_pos rfl] at H;exact H
    clear H
    have H:=H1
    clear H1
    obtain rfl:=Option.some.inj H
    go_wp2
    go_ret
    exact eA
   ·replace c17:=Bool.eq_false_iff.mpr c17
    subst c17
    have H1 : (if (a0_0 == a1_0 && (a0_1 == a1_1)) = true then (some 0) else (some 1)) = some r:=by rw [if_neg (show ¬ (false = true) by decide)] at H;exact H
    clear H
    have H:=H1
    clear H1
    by_cases c18 : (a0_0 == a1_0 && (a0_1 == a1_1)) = true
    ·rw [if_pos c18] at H
     have c18b0 : (a0_0 == a1_0 && (a0_1 == a1_1)) = true:=c18
     (try (have c18b1 : decide (a0_0 = a1_0 && (a0_1 == a1_1)) = true:=by simpa using c18))
     (try (have c18b2 : (a0_0 == a1_0 && (a0_1 == a1_1)) = true:=by simpa using c18))
     clear c18
     obtain rfl:=Option.some.inj H
     have hnb19:=NB351_352.out
     have hnc19:=NB352_351.out
     obtain ⟨hcz20_0,hcz20_1,hfz20_0,hfz20_1⟩:=k2 BK351.out
     obtain ⟨hcz21_0,hcz21_1,hfz21_0,hfz21_1⟩:=k2 BK352.out
     go_wp2
     go_ret
     exact eA
    ·rw [if_neg c18] at H
     have c18b0 : (a0_0 == a1_0 && (a0_1 == a1_1)) = false:=by simpa using c18
     (try (have c18b1 : decide (a0_0 = a1_0 && (a0_1 == a1_1)) = false:=by simpa using c18))
     (try (have c18b2 : (a0_0 == a1_0 && (a0_1 == a1_1)) = false:=by simpa using c18))
     (try (have c18b3 : ¬ (a0_0 = a1_0 && (a0_1 == a1_1)):=by simpa using c18))
     clear c18
     obtain rfl:=Option.some.inj H
     have hnb22:=NB351_352.out
     have hnc22:=NB352_351.out
     obtain ⟨hcz23_0,hcz23_1,hfz23_0,hfz23_1⟩:=k2 BK351.out
     obtain ⟨hcz24_0,hcz24_1,hfz24_0,hfz24_1⟩:=k2 BK352.out
     go_wp2
     go_ret
     exact eA

end Go.Proofs.YtbhijfbjdbjpbaaGreatDoor.GSH
namespace Go.Proofs.YtbhijfbjdbjpbaaGreatDoor.Q
open Go.RowKit Go.Proofs.YtbhijfbjdbjpbaaGreatDoor.GSH Go.Proofs.YtbhijfbjdbjpbaaGreatDoorW.PrintWords Go.Proofs.YtbhijfbjdbjpbaaGreatDoorW.PrintLast Go.Proofs.YtbhijfbjdbjpbaaGreatDoorW.PrintMore
theorem rcmp_j {b : Bool} {ah al bh bl : Int} (k : Nat) (hk : 1 ≤ k) (h2 : U al) (h4 : U bl) (hb : b = decide (V ah al < V bh bl)) : backfillref01_Cmp.j0 k b ah al bh bl = some (cmpV (V ah al) (V bh bl)):=by
  obtain ⟨k,rfl⟩ : ∃ m,k = m + 1:=⟨k - 1,by omega⟩
  simp only [backfillref01_Cmp.j0]
  unfold cmpV
  subst hb
  by_cases c : V ah al < V bh bl
  · rw [if_pos c,if_pos (decide_eq_true c)]
  · rw [if_neg c,if_neg (by simpa using c)]
    unfold V at c ⊢
    obtain ⟨h2a,h2b⟩:=h2;obtain ⟨h4a,h4b⟩:=h4
    by_cases e : ah = bh ∧ al = bl
    · rw [if_pos (by simp [e.1,e.2]),if_pos (by omega)]
    · rw [if_neg (by simpa using e),if_neg (by omega)]
theorem rcmp {ah al bh bl : Int} (k : Nat) (hk : 1 ≤ k) (h2 : U al) (h4 : U bl) : backfillref01_Cmp.f k ah al bh bl = some (cmpV (V ah al) (V bh bl)):=by
  unfold backfillref01_Cmp.f
  have h2':=h2;have h4':=h4
  obtain ⟨h2a,h2b⟩:=h2;obtain ⟨h4a,h4b⟩:=h4
  by_cases c : ah < bh
  · rw [if_pos c]
    exact rcmp_j k hk h2' h4' (by unfold V;symm;rw [decide_eq_true_iff];omega)
  · rw [if_neg c]
    by_cases e : ah = bh
    · rw [if_pos e]
      exact rcmp_j k hk h2' h4' (by unfold V;congr 1;apply propext;omega)
    · rw [if_neg e]
      exact rcmp_j k hk h2' h4' (by unfold V;symm;rw [decide_eq_false_iff_not];omega)
end Go.Proofs.YtbhijfbjdbjpbaaGreatDoor.Q
namespace Go.Proofs.YtbhijfbjdbjpbaaGreatDoor.GSH
open Go.RowKit Go.Proofs.YtbhijfbjdbjpbaaGreatDoorW.PrintWords Go.Proofs.YtbhijfbjdbjpbaaGreatDoorW.PrintLast Go.Proofs.YtbhijfbjdbjpbaaGreatDoorW.PrintMore
attribute [local go_sem] max2_int min2_int max_two min_two max_three min_three max_four min_four   -- for this text's walks alone
set_option linter.unusedVariables false
set_option linter.unusedSimpArgs false
def backfillref11_G.f (a0_0 : Int) (a0_1 : Int) (a0_2 : Int) (a0_3 : Int) (a0_4 : Int) (a0_5 : Int) (a0_6 : Int) (a0_7 : Int) : Option (Int):=(backfillref11_K.f a0_0 a0_1 a0_2 a0_3 a0_4 a0_5 a0_6 a0_7).bind fun t320 => ((backfillref11_M.f a0_0 a0_1 a0_2 a0_3 a0_4 a0_5 a0_6 a0_7).bind fun t321 => ((backfillref11_up.f (wrap64 (t321 * 81)) 2147483648).bind fun t322 => (some (wrap64 (t320 * (wrap64 (1 + t322)))))))
def backfillref11_G.T1 : Bool × List (List Nat × List Nat):=(true,[([],[]),([0],[0]),([],[]),([2,1],[2]),([3],[3]),([4,3],[4]),([5],[5]),([1,6],[1,6]),([7,5,0,1,2,3,4,5,6,7],[7])])
def backfillref11_G.B1 : List Nat:=[0,1,0,7,15,31,63,127,255]
theorem backfillref11_G.tab1 : rtab .any (opsOf Tryz.f84 1) = backfillref11_G.T1:=by kernel_rfl
theorem backfillref11_G.bits1 : waitsOk backfillref11_G.T1.2 backfillref11_G.B1 = true:=by kernel_rfl
theorem backfillref11_G.calls (a0_0 : Int) (a0_1 : Int) (a0_2 : Int) (a0_3 : Int) (a0_4 : Int) (a0_5 : Int) (a0_6 : Int) (a0_7 : Int) (r : Int) (w : World) (h : backfillref11_G.f a0_0 a0_1 a0_2 a0_3 a0_4 a0_5 a0_6 a0_7 = some r) :
  Calls Tryz.prog 84 #[.agg #[.int .i64 a0_0,.int .i64 a0_1,.int .i64 a0_2,.int .i64 a0_3,.int .i64 a0_4,.int .i64 a0_5,.int .i64 a0_6,.int .i64 a0_7]] w fun e w' => e = .returned (.int .i64 r) ∧ Below w.heap.size w w':=by
 have hu23:=Tryz.underlying23
 have HB:=Am (Below.refl w.heap.size w)
 have H : ((backfillref11_K.f a0_0 a0_1 a0_2 a0_3 a0_4 a0_5 a0_6 a0_7).bind fun t320 => ((backfillref11_M.f a0_0 a0_1 a0_2 a0_3 a0_4 a0_5 a0_6 a0_7).bind fun t321 => ((backfillref11_up.f (wrap64 (t321 * 81)) 2147483648).bind fun t322 => (some (wrap64 (t320 * (wrap64 (1 + t322)))))))) = some r:=h
 clear h;obtain ⟨t320,A2,H⟩:=bnd H;(try dsimp only at H);obtain ⟨t321,A3,H⟩:=bnd H;(try dsimp only at H);obtain ⟨t322,A4,H⟩:=bnd H;(try dsimp only at H)
 obtain rfl:=Option.some.inj H
 go_enter Tryz.func84,Tryz.ntmps84
 try go_wp2_with (first | ((with_reducible refine gate_dst (N:=1) rfl ?_);refine bxA 1 #[.int .i64 a0_0,.int .i64 a0_1,.int .i64 a0_2,.int .i64 a0_3,.int .i64 a0_4,.int .i64 a0_5,.int .i64 a0_6,.int .i64 a0_7] 23 ?_;intro gb319 hg w5 hbox hb;have BK319:=Am (hbox);have GW319:=Am (gwA hg bA);have GE319:=Am (gwA hg bA);replace HB:=Am (below_step bA hb);clear hb hbox hg))
 replace BK319:=Am (blk_drew BK319.out);replace HB:=Am (below_drew1 HB.out)
 refine start_ (n:=9) (S:=fun w' => w'.cell? ⟨gb319,0,none⟩ = some (.int .i64 a0_0) ∧ w'.cell? ⟨gb319,1,none⟩ = some (.int .i64 a0_1) ∧ w'.cell? ⟨gb319,2,none⟩ = some (.int .i64 a0_2) ∧ w'.cell? ⟨gb319,3,none⟩ = some (.int .i64 a0_3) ∧ w'.cell? ⟨gb319,4,none⟩ = some (.int .i64 a0_4) ∧ w'.cell? ⟨gb319,5,none⟩ = some (.int .i64 a0_5) ∧ w'.cell? ⟨gb319,6,none⟩ = some (.int .i64 a0_6) ∧ w'.cell? ⟨gb319,7,none⟩ = some (.int .i64 a0_7)) (ds:=[]) #[nn,nn,nn,nn,nn,nn,nn,nn,nn] (by kernel_rfl) rfl rfl (q8 BK319.out) (fun hHeld => ?_);refine with_tabW backfillref11_G.tab1 backfillref11_G.bits1 (fun HT_ HW_ => ?_)
 generalize w5.drew = w6 at BK319 HB hHeld ⊢
 refine tk_ 0 (some 3) #[yy,nn,nn,nn,nn,nn,nn,nn,nn] (take_ofW HT_.out HW_.out (by kernel_rfl)) hHeld ?_
 refine tk_ 2 (some 5) #[yy,nn,yy,nn,nn,nn,nn,nn,nn] (take_ofW HT_.out HW_.out (by kernel_rfl)) hHeld ?_
 refine one_ (i:=1) (N:=some 4) #[yy,yy,yy,nn,nn,nn,nn,nn,nn] rfl rfl (one_of HT_.out (by kernel_rfl)) (by decide) (fun K hK => ?_)
 refine goes_ Tryz.func83 (by kernel_rfl) rfl #[.agg #[.int .i64 a0_0,.int .i64 a0_1,.int .i64 a0_2,.int .i64 a0_3,.int .i64 a0_4,.int .i64 a0_5,.int .i64 a0_6,.int .i64 a0_7]] (by rfl) rfl rfl aA ?_
 with_reducible refine (backfillref11_K.calls a0_0 a0_1 a0_2 a0_3 a0_4 a0_5 a0_6 a0_7 t320 _ A2.out).mono ?_
 rintro e w7 ⟨rfl,hb⟩
 refine ⟨_,rfl,?_⟩;replace BK319:=Am (blk_below (g:=gb319) kA hb);replace HB:=Am (below_step bA hb);(try clear hb)
 refine hK.out _ _ (q8 BK319.out) (fun hHeld => ?_)
 clear hK K
 refine nm_ ?_
 refine one_ (i:=3) (N:=some 6) #[yy,yy,yy,yy,nn,nn,nn,nn,nn] rfl rfl (one_of HT_.out (by kernel_rfl)) (by decide) (fun K hK => ?_)
 refine goes_ Tryz.func48 (by kernel_rfl) rfl #[.agg #[.int .i64 a0_0,.int .i64 a0_1,.int .i64 a0_2,.int .i64 a0_3,.int .i64 a0_4,.int .i64 a0_5,.int .i64 a0_6,.int .i64 a0_7]] (by rfl) rfl rfl aA ?_
 with_reducible refine (backfillref11_M.calls a0_0 a0_1 a0_2 a0_3 a0_4 a0_5 a0_6 a0_7 t321 _ A3.out).mono ?_
 rintro e w8 ⟨rfl,hb⟩
 refine ⟨_,rfl,?_⟩;replace BK319:=Am (blk_below (g:=gb319) kA hb);replace HB:=Am (below_step bA hb);(try clear hb)
 refine hK.out _ _ (q8 BK319.out) (fun hHeld => ?_)
 clear hK K
 refine nm_ ?_
 refine pu_ 4 (some 7) #[yy,yy,yy,yy,yy,nn,nn,nn,nn] (any_of HT_.out (by kernel_rfl)) ?_
 refine one_ (i:=5) (N:=some 8) #[yy,yy,yy,yy,yy,yy,nn,nn,nn] rfl rfl (one_of HT_.out (by kernel_rfl)) (by decide) (fun K hK => ?_)
 refine goes_ Tryz.func102 (by kernel_rfl) rfl #[.int .i64 (wrap64 (t321 * 81)),.int .i64 2147483648] (by rfl) rfl rfl aA ?_
 with_reducible refine (backfillref11_up.calls (wrap64 (t321 * 81)) 2147483648 t322 _ A4.out).mono ?_
 rintro e w' ⟨rfl,⟨nd,rfl⟩⟩
 refine ⟨_,rfl,?_⟩
 refine hK.out _ _ (q8 BK319.out) (fun hHeld => ?_)
 clear hK K
 refine nm_ ?_
 refine pu_ 6 (some 9) #[yy,yy,yy,yy,yy,yy,yy,nn,nn] (any_of HT_.out (by kernel_rfl)) ?_
 refine pu_ 7 (some 10) #[yy,yy,yy,yy,yy,yy,yy,yy,nn] (any_of HT_.out (by kernel_rfl)) ?_
 refine pu_ 8 (some 2) #[yy,yy,yy,yy,yy,yy,yy,yy,yy] (any_of HT_.out (by kernel_rfl)) ?_
 refine done_ (done_of HT_.out (by kernel_rfl)) ?_
 try go_wp2
 go_ret
 exact eA

def backfillref11_off.f (a0_0 : Int) (a0_1 : Int) (a0_2 : Int) (a0_3 : Int) (a0_4 : Int) (a0_5 : Int) (a0_6 : Int) (a0_7 : Int) : Option (Int × Int × Int × Int):=if a0_4 = 0 then ((backfillref01_Of.f 1).bind fun bt326 => (some (0,0,bt326.1,bt326.2))) else ((backfillref11_C.f a0_0 a0_1 a0_2 a0_3 a0_4 a0_5 a0_6 a0_7).bind fun t328 => ((backfillref01_Mul.f (IntKind.u64.wrap (t328)) 4294967296).bind fun bt329 => ((backfillref11_G.f a0_0 a0_1 a0_2 a0_3 a0_4 a0_5 a0_6 a0_7).bind fun t332 => ((backfillref01_Mul.f 258048 (IntKind.u64.wrap (t332))).bind fun bt333 => ((backfillref11_C.f a0_0 a0_1 a0_2 a0_3 a0_4 a0_5 a0_6 a0_7).bind fun t336 => ((backfillref01_Of.f (IntKind.u64.wrap (wrap64 (2 * t336)))).bind fun bt337 => ((backfillref01_Add.f bt333.1 bt333.2 bt337.1 bt337.2).bind fun bt339 => ((backfillref01_Times.f bt339.1 bt339.2.1 (IntKind.u64.wrap (a0_4))).bind fun bt342 => ((backfillref01_Add.f bt342.1 bt342.2.1 bt329.1 bt329.2).bind fun bt345 => (some (bt345.1,bt345.2.1,bt329.1,bt329.2)))))))))))
def backfillref11_off.T5 : Bool × List (List Nat × List Nat):=(true,[([],[]),([],[]),([1],[1]),([2],[2]),([3],[3]),([4,2],[4]),([0,5,5],[0,5]),([6],[6]),([7],[7]),([7],[7]),([8,6,0,1,2,3,4,5,6,7,8],[8])])
def backfillref11_off.B5 : List Nat:=[0,0,2,6,14,30,63,127,255,255,511]
theorem backfillref11_off.tab5 : rtab .any (opsOf Tryz.f49 5) = backfillref11_off.T5:=by kernel_rfl
theorem backfillref11_off.bits5 : waitsOk backfillref11_off.T5.2 backfillref11_off.B5 = true:=by kernel_rfl
theorem backfillref11_off.calls (a0_0 : Int) (a0_1 : Int) (a0_2 : Int) (a0_3 : Int) (a0_4 : Int) (a0_5 : Int) (a0_6 : Int) (a0_7 : Int) (r1 : Int) (r2 : Int) (r3 : Int) (r4 : Int) (w : World) (h : backfillref11_off.f a0_0 a0_1 a0_2 a0_3 a0_4 a0_5 a0_6 a0_7 = some (r1,r2,r3,r4)) :
  Calls Tryz.prog 49 #[.agg #[.int .i64 a0_0,.int .i64 a0_1,.int .i64 a0_2,.int .i64 a0_3,.int .i64 a0_4,.int .i64 a0_5,.int .i64 a0_6,.int .i64 a0_7]] w fun e w' => e = .returned (.tuple #[.agg #[.int .u64 r1,.int .u64 r2],.agg #[.int .u64 r3,.int .u64 r4]]) ∧ Below w.heap.size w w':=by
 have hu23:=Tryz.underlying23
 have hu82:=Tryz.underlying82
 have HB:=Am (Below.refl w.heap.size w)
 have H : (if a0_4 = 0 then ((backfillref01_Of.f 1).bind fun bt326 => (some (0,0,bt326.1,bt326.2))) else ((backfillref11_C.f a0_0 a0_1 a0_2 a0_3 a0_4 a0_5 a0_6 a0_7).bind fun t328 => ((backfillref01_Mul.f (IntKind.u64.wrap (t328)) 4294967296).bind fun bt329 => ((backfillref11_G.f a0_0 a0_1 a0_2 a0_3 a0_4 a0_5 a0_6 a0_7).bind fun t332 => ((backfillref01_Mul.f 258048 (IntKind.u64.wrap (t332))).bind fun bt333 => ((backfillref11_C.f a0_0 a0_1 a0_2 a0_3 a0_4 a0_5 a0_6 a0_7).bind fun t336 => ((backfillref01_Of.f (IntKind.u64.wrap (wrap64 (2 * t336)))).bind fun bt337 => ((backfillref01_Add.f bt333.1 bt333.2 bt337.1 bt337.2).bind fun bt339 => ((backfillref01_Times.f bt339.1 bt339.2.1 (IntKind.u64.wrap (a0_4))).bind fun bt342 => ((backfillref01_Add.f bt342.1 bt342.2.1 bt329.1 bt329.2).bind fun bt345 => (some (bt345.1,bt345.2.1,bt329.1,bt329.2)))))))))))) = some (r1,r2,r3,r4):=h
 clear h
 by_cases c2 : a0_4 = 0
 ·rw [if_pos c2] at H
  have c2b0 : (a0_4 == 0) = true:=beq_iff_eq.mpr c2
  have c2b1 : (a0_4 != 0) = false:=bne_eq_false_iff_eq.mpr c2
  clear c2;obtain ⟨⟨t326,t327⟩,A3,H⟩:=bnd H;(try dsimp only at H)
  simp only [Option.some.injEq,Prod.mk.injEq] at H
  obtain ⟨rfl,rfl,rfl,rfl⟩:=H
  go_enter Tryz.func49,Tryz.ntmps49
  go_wp2_with (first | ((with_reducible refine gate_dst (N:=1) rfl ?_);refine bxA 1 #[.int .i64 a0_0,.int .i64 a0_1,.int .i64 a0_2,.int .i64 a0_3,.int .i64 a0_4,.int .i64 a0_5,.int .i64 a0_6,.int .i64 a0_7] 23 ?_;intro gb323 hg w4 hbox hb;have BK323:=Am (hbox);have GW323:=Am (gwA hg bA);have GE323:=Am (gwA hg bA);replace HB:=Am (below_step bA hb);clear hb hbox hg) | ((with_reducible refine gate_dst (N:=2) rfl ?_);refine bxA 2 #[.int .u64 0,.int .u64 0] 82 ?_;intro gb324 hg w5 hbox hb;have BK324:=Am (hbox);have GW324:=Am (gwA hg bA);have GE324:=Am (gwA hg bA);have NB323_324:=Am (neA (g:=gb323) hg kA);have NB324_323:=Am (neB (g:=gb323) hg kA);replace BK323:=Am (blk_below (g:=gb323) kA hb);replace HB:=Am (below_step bA hb);clear hb hbox hg) | ((with_reducible refine gate_dst (N:=3) rfl ?_);refine bxA 3 #[.int .u64 0,.int .u64 0] 82 ?_;intro gb325 hg w6 hbox hb;have BK325:=Am (hbox);have GW325:=Am (gwA hg bA);have GE325:=Am (gwA hg bA);have NB323_325:=Am (neA (g:=gb323) hg kA);have NB325_323:=Am (neB (g:=gb323) hg kA);have NB324_325:=Am (neA (g:=gb324) hg kA);have NB325_324:=Am (neB (g:=gb324) hg kA);replace BK323:=Am (blk_below (g:=gb323) kA hb);replace BK324:=Am (blk_below (g:=gb324) kA hb);replace HB:=Am (below_step bA hb);clear hb hbox hg;have hnb7:=NB323_324.out;have hnc7:=NB324_323.out;have hnb8:=NB323_325.out;have hnc8:=NB325_323.out;obtain ⟨hcz9_0,hcz9_1,hcz9_2,hcz9_3,hcz9_4,hcz9_5,hcz9_6,hcz9_7,hfz9_0,hfz9_1,hfz9_2,hfz9_3,hfz9_4,hfz9_5,hfz9_6,hfz9_7⟩:=k8 BK323.out) | ((with_reducible refine gate_callee (f:=63) rfl ?_);refine goesL_ (some 10) rfl rfl Tryz.func63 (by kernel_rfl) rfl #[.int .u64 1] rfl aA ?_;(with_reducible refine (backfillref01_Of.calls 1 t326 t327 _ A3.out).mono ?_);rintro e w10 ⟨rfl,hb⟩;refine ⟨_,rfl,?_⟩;replace BK323:=Am (blk_below (g:=gb323) kA hb);replace BK324:=Am (blk_below (g:=gb324) kA hb);replace BK325:=Am (blk_below (g:=gb325) kA hb);replace HB:=Am (below_step bA hb);(try clear hb);have hnb11:=NB324_325.out;have hnc11:=NB325_324.out;obtain ⟨hcz12_0,hcz12_1,hfz12_0,hfz12_1⟩:=k2 BK324.out;obtain ⟨hcz13_0,hcz13_1,hfz13_0,hfz13_1⟩:=k2 BK325.out))
  refine bodyPost_ret (results_cc rfl _ _ gb324 gb325 82 82 #[.int .u64 0,.int .u64 0] #[.int .u64 t326,.int .u64 t327] (0,0) (0,0) _ _ rfl (by (with_reducible repeat (first | refine b1 ?_ _ | refine b2 ?_ | refine b3 ?_ _));refine blk_far ?_ NB324_325.out _;(with_reducible repeat (first | refine b1 ?_ _ | refine b2 ?_ | refine b3 ?_ _));refine blk_far ?_ NB324_325.out _;(with_reducible repeat (first | refine b1 ?_ _ | refine b2 ?_ | refine b3 ?_ _));refine blk_put (cs:=#[.int .u64 0,.int .u64 0]) ?_ 1 _ rfl;(with_reducible repeat (first | refine b1 ?_ _ | refine b2 ?_ | refine b3 ?_ _));refine blk_put (cs:=#[.int .u64 0,.int .u64 0]) ?_ 0 _ rfl;exact kA) Tryz.underlying82 rfl (by kernel_rfl) rfl (by (with_reducible repeat (first | refine b1 ?_ _ | refine b2 ?_ | refine b3 ?_ _));refine blk_put (cs:=#[.int .u64 t326,.int .u64 0]) ?_ 1 _ rfl;(with_reducible repeat (first | refine b1 ?_ _ | refine b2 ?_ | refine b3 ?_ _));refine blk_put (cs:=#[.int .u64 0,.int .u64 0]) ?_ 0 _ rfl;(with_reducible repeat (first | refine b1 ?_ _ | refine b2 ?_ | refine b3 ?_ _));refine blk_far ?_ NB325_324.out _;(with_reducible repeat (first | refine b1 ?_ _ | refine b2 ?_ | refine b3 ?_ _));refine blk_far ?_ NB325_324.out _;exact kA) Tryz.underlying82 rfl (by kernel_rfl)) rfl ?_
  exact eA
 ·rw [if_neg c2] at H
  have c2b0 : (a0_4 == 0) = false:=beq_eq_false_iff_ne.mpr c2
  have c2b1 : (a0_4 != 0) = true:=bne_iff_ne.mpr c2
  obtain ⟨t328,A14,H⟩:=bnd H;(try dsimp only at H);obtain ⟨⟨t329,t330⟩,A15,H⟩:=bnd H;(try dsimp only at H);obtain ⟨t332,A16,H⟩:=bnd H;(try dsimp only at H);obtain ⟨⟨t333,t334⟩,A17,H⟩:=bnd H;(try dsimp only at H);obtain ⟨t336,A18,H⟩:=bnd H;(try dsimp only at H);obtain ⟨⟨t337,t338⟩,A19,H⟩:=bnd H;(try dsimp only at H);replace H:=Option.bind_eq_some_iff.mp H;obtain ⟨⟨t339,t340,t341⟩,A200,H⟩:=H;replace H : ((backfillref01_Times.f t339 t340 (IntKind.u64.wrap (a0_4))).bind fun bt342 => ((backfillref01_Add.f bt342.1 bt342.2.1 t329 t330).bind fun bt345 => (some (bt345.1,bt345.2.1,t329,t330)))) = some (r1,r2,r3,r4):=H
  have A20:=Aside0.mk A200;clear A200;obtain ⟨⟨t342,t343,t344⟩,A21,H⟩:=bnd H;(try dsimp only at H);obtain ⟨⟨t345,t346,t347⟩,A22,H⟩:=bnd H;(try dsimp only at H)
  simp only [Option.some.injEq,Prod.mk.injEq] at H
  obtain ⟨rfl,rfl,rfl,rfl⟩:=H
  go_enter Tryz.func49,Tryz.ntmps49
  try go_wp2_with (first | ((with_reducible refine gate_dst (N:=1) rfl ?_);refine bxA 1 #[.int .i64 a0_0,.int .i64 a0_1,.int .i64 a0_2,.int .i64 a0_3,.int .i64 a0_4,.int .i64 a0_5,.int .i64 a0_6,.int .i64 a0_7] 23 ?_;intro gb323 hg w23 hbox hb;have BK323:=Am (hbox);have GW323:=Am (gwA hg bA);have GE323:=Am (gwA hg bA);replace HB:=Am (below_step bA hb);clear hb hbox hg) | ((with_reducible refine gate_dst (N:=2) rfl ?_);refine bxA 2 #[.int .u64 0,.int .u64 0] 82 ?_;intro gb324 hg w24 hbox hb;have BK324:=Am (hbox);have GW324:=Am (gwA hg bA);have GE324:=Am (gwA hg bA);have NB323_324:=Am (neA (g:=gb323) hg kA);have NB324_323:=Am (neB (g:=gb323) hg kA);replace BK323:=Am (blk_below (g:=gb323) kA hb);replace HB:=Am (below_step bA hb);clear hb hbox hg) | ((with_reducible refine gate_dst (N:=3) rfl ?_);refine bxA 3 #[.int .u64 0,.int .u64 0] 82 ?_;intro gb325 hg w25 hbox hb;have BK325:=Am (hbox);have GW325:=Am (gwA hg bA);have GE325:=Am (gwA hg bA);have NB323_325:=Am (neA (g:=gb323) hg kA);have NB325_323:=Am (neB (g:=gb323) hg kA);have NB324_325:=Am (neA (g:=gb324) hg kA);have NB325_324:=Am (neB (g:=gb324) hg kA);replace BK323:=Am (blk_below (g:=gb323) kA hb);replace BK324:=Am (blk_below (g:=gb324) kA hb);replace HB:=Am (below_step bA hb);clear hb hbox hg;have hnb26:=NB323_324.out;have hnc26:=NB324_323.out;have hnb27:=NB323_325.out;have hnc27:=NB325_323.out;obtain ⟨hcz28_0,hcz28_1,hcz28_2,hcz28_3,hcz28_4,hcz28_5,hcz28_6,hcz28_7,hfz28_0,hfz28_1,hfz28_2,hfz28_3,hfz28_4,hfz28_5,hfz28_6,hfz28_7⟩:=k8 BK323.out) | ((with_reducible refine gate_callee (f:=54) rfl ?_);refine goesL_ (some 12) rfl rfl Tryz.func54 (by kernel_rfl) rfl #[.agg #[.int .i64 a0_0,.int .i64 a0_1,.int .i64 a0_2,.int .i64 a0_3,.int .i64 a0_4,.int .i64 a0_5,.int .i64 a0_6,.int .i64 a0_7]] rfl aA ?_;(with_reducible refine (backfillref11_C.calls a0_0 a0_1 a0_2 a0_3 a0_4 a0_5 a0_6 a0_7 t328 _ A14.out).mono ?_);rintro e w29 ⟨rfl,hb⟩;refine ⟨_,rfl,?_⟩;replace BK323:=Am (blk_below (g:=gb323) kA hb);replace BK324:=Am (blk_below (g:=gb324) kA hb);replace BK325:=Am (blk_below (g:=gb325) kA hb);replace HB:=Am (below_step bA hb);(try clear hb)) | ((with_reducible refine gate_callee (f:=57) rfl ?_);refine goesL_ (some 14) rfl rfl Tryz.func57 (by kernel_rfl) rfl #[.int .u64 (IntKind.u64.wrap (t328)),.int .u64 4294967296] rfl aA ?_;(with_reducible refine (backfillref01_Mul.calls (IntKind.u64.wrap (t328)) 4294967296 t329 t330 _ A15.out).mono ?_);rintro e w30 ⟨rfl,hb⟩;refine ⟨_,rfl,?_⟩;replace BK323:=Am (blk_below (g:=gb323) kA hb);replace BK324:=Am (blk_below (g:=gb324) kA hb);replace BK325:=Am (blk_below (g:=gb325) kA hb);replace HB:=Am (below_step bA hb);(try clear hb)) | ((with_reducible refine gate_dst (N:=4) rfl ?_);refine bxA 4 #[.int .u64 0,.int .u64 0] 82 ?_;intro gb331 hg w31 hbox hb;have BK331:=Am (hbox);have GW331:=Am (gwA hg bA);have GE331:=Am (gwA hg bA);have NB323_331:=Am (neA (g:=gb323) hg kA);have NB331_323:=Am (neB (g:=gb323) hg kA);have NB324_331:=Am (neA (g:=gb324) hg kA);have NB331_324:=Am (neB (g:=gb324) hg kA);have NB325_331:=Am (neA (g:=gb325) hg kA);have NB331_325:=Am (neB (g:=gb325) hg kA);replace BK323:=Am (blk_below (g:=gb323) kA hb);replace BK324:=Am (blk_below (g:=gb324) kA hb);replace BK325:=Am (blk_below (g:=gb325) kA hb);replace HB:=Am (below_step bA hb);clear hb hbox hg;have hnb32:=NB331_323.out;have hnc32:=NB323_331.out;have hnb33:=NB331_324.out;have hnc33:=NB324_331.out;have hnb34:=NB331_325.out;have hnc34:=NB325_331.out;obtain ⟨hcz35_0,hcz35_1,hfz35_0,hfz35_1⟩:=k2 BK331.out;obtain ⟨hcz36_0,hcz36_1,hcz36_2,hcz36_3,hcz36_4,hcz36_5,hcz36_6,hcz36_7,hfz36_0,hfz36_1,hfz36_2,hfz36_3,hfz36_4,hfz36_5,hfz36_6,hfz36_7⟩:=k8 BK323.out) | ((with_reducible refine gate_callee (f:=84) rfl ?_);refine goesL_ (some 16) rfl rfl Tryz.func84 (by kernel_rfl) rfl #[.agg #[.int .i64 a0_0,.int .i64 a0_1,.int .i64 a0_2,.int .i64 a0_3,.int .i64 a0_4,.int .i64 a0_5,.int .i64 a0_6,.int .i64 a0_7]] rfl aA ?_;(with_reducible refine (backfillref11_G.calls a0_0 a0_1 a0_2 a0_3 a0_4 a0_5 a0_6 a0_7 t332 _ A16.out).mono ?_);rintro e w37 ⟨rfl,hb⟩;refine ⟨_,rfl,?_⟩;replace BK323:=Am (blk_below (g:=gb323) (o:=.cells #[.int .i64 a0_0,.int .i64 a0_1,.int .i64 a0_2,.int .i64 a0_3,.int .i64 a0_4,.int .i64 a0_5,.int .i64 a0_6,.int .i64 a0_7] 23 (0,0)) kF hb);replace BK324:=Am (blk_below (g:=gb324) (o:=.cells #[.int .u64 0,.int .u64 0] 82 (0,0)) kF hb);replace BK325:=Am (blk_below (g:=gb325) (o:=.cells #[.int .u64 0,.int .u64 0] 82 (0,0)) kF hb);replace BK331:=Am (blk_below (g:=gb331) (o:=.cells #[.int .u64 t329,.int .u64 t330] 82 (0,0)) (by (with_reducible repeat (first | refine b1 ?_ _ | refine b2 ?_ | refine b3 ?_ _));refine blk_put (cs:=#[.int .u64 t329,.int .u64 0]) ?_ 1 _ rfl;(with_reducible repeat (first | refine b1 ?_ _ | refine b2 ?_ | refine b3 ?_ _));refine blk_put (cs:=#[.int .u64 0,.int .u64 0]) ?_ 0 _ rfl;exact kA) hb);replace HB:=Am (below_step bA hb);(try clear hb)) | ((with_reducible refine gate_callee (f:=57) rfl ?_);refine goesL_ (some 18) rfl rfl Tryz.func57 (by kernel_rfl) rfl #[.int .u64 258048,.int .u64 (IntKind.u64.wrap (t332))] rfl aA ?_;(with_reducible refine (backfillref01_Mul.calls 258048 (IntKind.u64.wrap (t332)) t333 t334 _ A17.out).mono ?_);rintro e w38 ⟨rfl,hb⟩;refine ⟨_,rfl,?_⟩;replace BK323:=Am (blk_below (g:=gb323) kA hb);replace BK324:=Am (blk_below (g:=gb324) kA hb);replace BK325:=Am (blk_below (g:=gb325) kA hb);replace BK331:=Am (blk_below (g:=gb331) kA hb);replace HB:=Am (below_step bA hb);(try clear hb)) | ((with_reducible refine gate_dst (N:=5) rfl ?_);refine bxA 5 #[.int .u64 0,.int .u64 0] 82 ?_;intro gb335 hg w39 hbox hb;have BK335:=Am (hbox);have GW335:=Am (gwA hg bA);have GE335:=Am (gwA hg bA);have NB323_335:=Am (neA (g:=gb323) hg kA);have NB335_323:=Am (neB (g:=gb323) hg kA);have NB324_335:=Am (neA (g:=gb324) hg kA);have NB335_324:=Am (neB (g:=gb324) hg kA);have NB325_335:=Am (neA (g:=gb325) hg kA);have NB335_325:=Am (neB (g:=gb325) hg kA);have NB331_335:=Am (neA (g:=gb331) hg kA);have NB335_331:=Am (neB (g:=gb331) hg kA);replace BK323:=Am (blk_below (g:=gb323) kA hb);replace BK324:=Am (blk_below (g:=gb324) kA hb);replace BK325:=Am (blk_below (g:=gb325) kA hb);replace BK331:=Am (blk_below (g:=gb331) kA hb);replace HB:=Am (below_step bA hb);clear hb hbox hg;have hnb40:=NB335_323.out;have hnc40:=NB323_335.out;have hnb41:=NB335_324.out;have hnc41:=NB324_335.out;have hnb42:=NB335_325.out;have hnc42:=NB325_335.out;have hnb43:=NB335_331.out;have hnc43:=NB331_335.out;obtain ⟨hcz44_0,hcz44_1,hfz44_0,hfz44_1⟩:=k2 BK335.out))
  have n0_ : Aside0 (((w39.setCell ⟨gb335,0,none⟩ (.int .u64 t333)).setCell ⟨gb335,1,none⟩ (.int .u64 t334)).heap[gb323]? = some (.cells #[.int .i64 a0_0,.int .i64 a0_1,.int .i64 a0_2,.int .i64 a0_3,.int .i64 a0_4,.int .i64 a0_5,.int .i64 a0_6,.int .i64 a0_7] 23 (0,0))):=⟨kF⟩
  have n1_ : Aside0 (((w39.setCell ⟨gb335,0,none⟩ (.int .u64 t333)).setCell ⟨gb335,1,none⟩ (.int .u64 t334)).heap[gb324]? = some (.cells #[.int .u64 0,.int .u64 0] 82 (0,0))):=⟨kF⟩
  have n2_ : Aside0 (((w39.setCell ⟨gb335,0,none⟩ (.int .u64 t333)).setCell ⟨gb335,1,none⟩ (.int .u64 t334)).heap[gb325]? = some (.cells #[.int .u64 0,.int .u64 0] 82 (0,0))):=⟨kF⟩
  have n3_ : Aside0 (((w39.setCell ⟨gb335,0,none⟩ (.int .u64 t333)).setCell ⟨gb335,1,none⟩ (.int .u64 t334)).heap[gb331]? = some (.cells #[.int .u64 t329,.int .u64 t330] 82 (0,0))):=⟨kF⟩
  have n4_ : Aside0 (((w39.setCell ⟨gb335,0,none⟩ (.int .u64 t333)).setCell ⟨gb335,1,none⟩ (.int .u64 t334)).heap[gb335]? = some (.cells #[.int .u64 t333,.int .u64 t334] 82 (0,0))):=⟨by (with_reducible repeat (first | refine b1 ?_ _ | refine b2 ?_ | refine b3 ?_ _));refine blk_put (cs:=#[.int .u64 t333,.int .u64 0]) ?_ 1 _ rfl;(with_reducible repeat (first | refine b1 ?_ _ | refine b2 ?_ | refine b3 ?_ _));refine blk_put (cs:=#[.int .u64 0,.int .u64 0]) ?_ 0 _ rfl;exact kA⟩
  have n5_ : Aside0 (Below w.heap.size w ((w39.setCell ⟨gb335,0,none⟩ (.int .u64 t333)).setCell ⟨gb335,1,none⟩ (.int .u64 t334))):=⟨bA⟩
  (try clear BK323);(try clear BK324);(try clear BK325);(try clear BK331);(try clear BK335);(try clear HB)
  generalize ((w39.setCell ⟨gb335,0,none⟩ (.int .u64 t333)).setCell ⟨gb335,1,none⟩ (.int .u64 t334)) = w45 at n0_ n1_ n2_ n3_ n4_ n5_ ⊢
  have BK323:=n0_;have BK324:=n1_;have BK325:=n2_;have BK331:=n3_;have BK335:=n4_;have HB:=n5_;clear n0_ n1_ n2_ n3_ n4_ n5_;replace BK323:=Am (blk_drew BK323.out);replace BK324:=Am (blk_drew BK324.out);replace BK325:=Am (blk_drew BK325.out);replace BK331:=Am (blk_drew BK331.out);replace BK335:=Am (blk_drew BK335.out);replace HB:=Am (below_drew1 HB.out)
  refine start_ (n:=11) (S:=fun w' => w'.cell? ⟨gb335,0,none⟩ = some (.int .u64 t333) ∧ w'.cell? ⟨gb335,1,none⟩ = some (.int .u64 t334) ∧ w'.cell? ⟨gb323,0,none⟩ = some (.int .i64 a0_0) ∧ w'.cell? ⟨gb323,1,none⟩ = some (.int .i64 a0_1) ∧ w'.cell? ⟨gb323,2,none⟩ = some (.int .i64 a0_2) ∧ w'.cell? ⟨gb323,3,none⟩ = some (.int .i64 a0_3) ∧ w'.cell? ⟨gb323,4,none⟩ = some (.int .i64 a0_4) ∧ w'.cell? ⟨gb323,5,none⟩ = some (.int .i64 a0_5) ∧ w'.cell? ⟨gb323,6,none⟩ = some (.int .i64 a0_6) ∧ w'.cell? ⟨gb323,7,none⟩ = some (.int .i64 a0_7)) (ds:=[10]) #[nn,nn,nn,nn,nn,nn,nn,nn,nn,nn,nn] (by kernel_rfl) rfl rfl ⟨cl BK335.out 0,cl BK335.out 1,cl BK323.out 0,cl BK323.out 1,cl BK323.out 2,cl BK323.out 3,cl BK323.out 4,cl BK323.out 5,cl BK323.out 6,cl BK323.out 7⟩ (fun hHeld => ?_);refine with_tabW backfillref11_off.tab5 backfillref11_off.bits5 (fun HT_ HW_ => ?_)
  generalize w45.drew = w46 at BK323 BK324 BK325 BK331 BK335 HB hHeld ⊢
  refine tk_ 0 (some 20) #[yy,nn,nn,nn,nn,nn,nn,nn,nn,nn,nn] (take_ofW HT_.out HW_.out (by kernel_rfl)) hHeld ?_
  refine tk_ 1 (some 21) #[yy,yy,nn,nn,nn,nn,nn,nn,nn,nn,nn] (take_ofW HT_.out HW_.out (by kernel_rfl)) hHeld ?_
  refine one_ (i:=2) (N:=some 22) #[yy,yy,yy,nn,nn,nn,nn,nn,nn,nn,nn] rfl rfl (one_of HT_.out (by kernel_rfl)) (by decide) (fun K hK => ?_)
  refine goes_ Tryz.func54 (by kernel_rfl) rfl #[.agg #[.int .i64 a0_0,.int .i64 a0_1,.int .i64 a0_2,.int .i64 a0_3,.int .i64 a0_4,.int .i64 a0_5,.int .i64 a0_6,.int .i64 a0_7]] (by rfl) rfl rfl aA ?_
  with_reducible refine (backfillref11_C.calls a0_0 a0_1 a0_2 a0_3 a0_4 a0_5 a0_6 a0_7 t336 _ A18.out).mono ?_
  rintro e w47 ⟨rfl,hb⟩
  refine ⟨_,rfl,?_⟩;replace BK323:=Am (blk_below (g:=gb323) kA hb);replace BK324:=Am (blk_below (g:=gb324) kA hb);replace BK325:=Am (blk_below (g:=gb325) kA hb);replace BK331:=Am (blk_below (g:=gb331) kA hb);replace BK335:=Am (blk_below (g:=gb335) kA hb);replace HB:=Am (below_step bA hb);(try clear hb)
  refine hK.out _ _ ⟨cl BK335.out 0,cl BK335.out 1,cl BK323.out 0,cl BK323.out 1,cl BK323.out 2,cl BK323.out 3,cl BK323.out 4,cl BK323.out 5,cl BK323.out 6,cl BK323.out 7⟩ (fun hHeld => ?_)
  clear hK K
  refine nm_ ?_
  refine pu_ 3 (some 23) #[yy,yy,yy,yy,nn,nn,nn,nn,nn,nn,nn] (any_of HT_.out (by kernel_rfl)) ?_
  refine pu_ 4 (some 24) #[yy,yy,yy,yy,yy,nn,nn,nn,nn,nn,nn] (any_of HT_.out (by kernel_rfl)) ?_
  refine one_ (i:=5) (N:=some 25) #[yy,yy,yy,yy,yy,yy,nn,nn,nn,nn,nn] rfl rfl (one_of HT_.out (by kernel_rfl)) (by decide) (fun K hK => ?_)
  refine goes_ Tryz.func63 (by kernel_rfl) rfl #[.int .u64 (IntKind.u64.wrap (wrap64 (2 * t336)))] (by rfl) rfl rfl aA ?_
  with_reducible refine (backfillref01_Of.calls (IntKind.u64.wrap (wrap64 (2 * t336))) t337 t338 _ A19.out).mono ?_
  rintro e w48 ⟨rfl,hb⟩
  refine ⟨_,rfl,?_⟩;replace BK323:=Am (blk_below (g:=gb323) kA hb);replace BK324:=Am (blk_below (g:=gb324) kA hb);replace BK325:=Am (blk_below (g:=gb325) kA hb);replace BK331:=Am (blk_below (g:=gb331) kA hb);replace BK335:=Am (blk_below (g:=gb335) kA hb);replace HB:=Am (below_step bA hb);(try clear hb)
  refine hK.out _ _ ⟨cl BK335.out 0,cl BK335.out 1,cl BK323.out 0,cl BK323.out 1,cl BK323.out 2,cl BK323.out 3,cl BK323.out 4,cl BK323.out 5,cl BK323.out 6,cl BK323.out 7⟩ (fun hHeld => ?_)
  clear hK K
  refine nm_ ?_
  refine one_ (i:=6) (N:=some 26) #[yy,yy,yy,yy,yy,yy,yy,nn,nn,nn,nn] rfl rfl (one_of HT_.out (by kernel_rfl)) (by decide) (fun K hK => ?_)
  refine goes_ Tryz.func64 (by kernel_rfl) rfl #[.agg #[.int .u64 t333,.int .u64 t334],.agg #[.int .u64 t337,.int .u64 t338]] (by rfl) rfl rfl aA ?_
  with_reducible refine (backfillref01_Add.calls t333 t334 t337 t338 t339 t340 t341 _ A20.out).mono ?_
  rintro e w49 ⟨rfl,hb⟩
  refine ⟨_,rfl,?_⟩;replace BK323:=Am (blk_below (g:=gb323) kA hb);replace BK324:=Am (blk_below (g:=gb324) kA hb);replace BK325:=Am (blk_below (g:=gb325) kA hb);replace BK331:=Am (blk_below (g:=gb331) kA hb);replace BK335:=Am (blk_below (g:=gb335) kA hb);replace HB:=Am (below_step bA hb);(try clear hb)
  refine hK.out _ _ ⟨cl BK335.out 0,cl BK335.out 1,cl BK323.out 0,cl BK323.out 1,cl BK323.out 2,cl BK323.out 3,cl BK323.out 4,cl BK323.out 5,cl BK323.out 6,cl BK323.out 7⟩ (fun hHeld => ?_)
  clear hK K
  refine nm_ ?_
  refine pu_ 7 (some 19) #[yy,yy,yy,yy,yy,yy,yy,yy,nn,nn,nn] (any_of HT_.out (by kernel_rfl)) ?_
  refine pu_ 8 (some 27) #[yy,yy,yy,yy,yy,yy,yy,yy,yy,nn,nn] (any_of HT_.out (by kernel_rfl)) ?_
  refine pu_ 9 (some 28) #[yy,yy,yy,yy,yy,yy,yy,yy,yy,yy,nn] (any_of HT_.out (by kernel_rfl)) ?_
  refine last_ (i:=10) (N:=none) #[yy,yy,yy,yy,yy,yy,yy,yy,yy,yy,yy] rfl rfl (one_of HT_.out (by kernel_rfl)) (by decide) (fun K hK => ?_)
  have hs50 : w49.cell? ⟨gb335,0,none⟩ = some (.int .u64 t333):=(blk_cell BK335.out 0).trans rfl
  have hfs50:=blk_frozen BK335.out 0
  have hns50_0:=NB323_335.out
  have hns50_1:=NB324_335.out
  have hns50_2:=NB325_335.out
  have hns50_3:=NB331_335.out
  have hms50_0:=NB335_323.out
  have hms50_1:=NB335_324.out
  have hms50_2:=NB335_325.out
  have hms50_3:=NB335_331.out
  have hs51 : w49.cell? ⟨gb335,1,none⟩ = some (.int .u64 t334):=(blk_cell BK335.out 1).trans rfl
  have hfs51:=blk_frozen BK335.out 1
  have hns51_0:=NB323_335.out
  have hns51_1:=NB324_335.out
  have hns51_2:=NB325_335.out
  have hns51_3:=NB331_335.out
  have hms51_0:=NB335_323.out
  have hms51_1:=NB335_324.out
  have hms51_2:=NB335_325.out
  have hms51_3:=NB335_331.out
  refine skip_ (w1:=?_) (by rfl) rfl ?_ ?_
  rotate_left
  ·go_simp
   rfl
  refine hK.out _ _ ?_
  clear hK K
  refine done_ (done_of HT_.out (by kernel_rfl)) ?_
  obtain ⟨hcz52_0,hcz52_1,hfz52_0,hfz52_1⟩:=k2 BK335.out
  obtain ⟨hcz53_0,hcz53_1,hcz53_2,hcz53_3,hcz53_4,hcz53_5,hcz53_6,hcz53_7,hfz53_0,hfz53_1,hfz53_2,hfz53_3,hfz53_4,hfz53_5,hfz53_6,hfz53_7⟩:=k8 BK323.out
  try go_wp2_with (first | ((with_reducible refine gate_callee (f:=50) rfl ?_);refine goesL_ (some 34) rfl rfl Tryz.func50 (by kernel_rfl) rfl #[.agg #[.int .u64 t339,.int .u64 t340],.int .u64 (IntKind.u64.wrap (a0_4))] rfl aA ?_;(with_reducible refine (backfillref01_Times.calls t339 t340 (IntKind.u64.wrap (a0_4)) t342 t343 t344 _ A21.out).mono ?_);rintro e w54 ⟨rfl,hb⟩;refine ⟨_,rfl,?_⟩;replace BK323:=Am (blk_below (g:=gb323) (o:=.cells #[.int .i64 a0_0,.int .i64 a0_1,.int .i64 a0_2,.int .i64 a0_3,.int .i64 a0_4,.int .i64 a0_5,.int .i64 a0_6,.int .i64 a0_7] 23 (0,0)) kF hb);replace BK324:=Am (blk_below (g:=gb324) (o:=.cells #[.int .u64 0,.int .u64 0] 82 (0,0)) kF hb);replace BK325:=Am (blk_below (g:=gb325) (o:=.cells #[.int .u64 0,.int .u64 0] 82 (0,0)) kF hb);replace BK331:=Am (blk_below (g:=gb331) (o:=.cells #[.int .u64 t329,.int .u64 t330] 82 (0,0)) kF hb);replace BK335:=Am (blk_below (g:=gb335) (o:=.cells #[.int .u64 t339,.int .u64 t340] 82 (0,0)) (by (with_reducible repeat (first | refine b1 ?_ _ | refine b2 ?_ | refine b3 ?_ _));refine blk_put (cs:=#[.int .u64 t339,.int .u64 t334]) ?_ 1 _ rfl;(with_reducible repeat (first | refine b1 ?_ _ | refine b2 ?_ | refine b3 ?_ _));refine blk_put (cs:=#[.int .u64 t333,.int .u64 t334]) ?_ 0 _ rfl;exact kA) hb);replace HB:=Am (below_step bA hb);(try clear hb);obtain ⟨hcz55_0,hcz55_1,hfz55_0,hfz55_1⟩:=k2 BK335.out;obtain ⟨hcz56_0,hcz56_1,hfz56_0,hfz56_1⟩:=k2 BK331.out) | ((with_reducible refine gate_callee (f:=64) rfl ?_);refine goesL_ (some 40) rfl rfl Tryz.func64 (by kernel_rfl) rfl #[.agg #[.int .u64 t342,.int .u64 t343],.agg #[.int .u64 t329,.int .u64 t330]] rfl aA ?_;(with_reducible refine (backfillref01_Add.calls t342 t343 t329 t330 t345 t346 t347 _ A22.out).mono ?_);rintro e w57 ⟨rfl,hb⟩;refine ⟨_,rfl,?_⟩;replace BK323:=Am (blk_below (g:=gb323) (o:=.cells #[.int .i64 a0_0,.int .i64 a0_1,.int .i64 a0_2,.int .i64 a0_3,.int .i64 a0_4,.int .i64 a0_5,.int .i64 a0_6,.int .i64 a0_7] 23 (0,0)) kF hb);replace BK324:=Am (blk_below (g:=gb324) (o:=.cells #[.int .u64 0,.int .u64 0] 82 (0,0)) kF hb);replace BK325:=Am (blk_below (g:=gb325) (o:=.cells #[.int .u64 0,.int .u64 0] 82 (0,0)) kF hb);replace BK331:=Am (blk_below (g:=gb331) (o:=.cells #[.int .u64 t329,.int .u64 t330] 82 (0,0)) kF hb);replace BK335:=Am (blk_below (g:=gb335) (o:=.cells #[.int .u64 t342,.int .u64 t343] 82 (0,0)) (by (with_reducible repeat (first | refine b1 ?_ _ | refine b2 ?_ | refine b3 ?_ _));refine blk_put (cs:=#[.int .u64 t342,.int .u64 t340]) ?_ 1 _ rfl;(with_reducible repeat (first | refine b1 ?_ _ | refine b2 ?_ | refine b3 ?_ _));refine blk_put (cs:=#[.int .u64 t339,.int .u64 t340]) ?_ 0 _ rfl;exact kA) hb);replace HB:=Am (below_step bA hb);(try clear hb);obtain ⟨hcz58_0,hcz58_1,hfz58_0,hfz58_1⟩:=k2 BK335.out))
  have n0_ : Aside0 (((w57.setCell ⟨gb335,0,none⟩ (.int .u64 t345)).setCell ⟨gb335,1,none⟩ (.int .u64 t346)).heap[gb323]? = some (.cells #[.int .i64 a0_0,.int .i64 a0_1,.int .i64 a0_2,.int .i64 a0_3,.int .i64 a0_4,.int .i64 a0_5,.int .i64 a0_6,.int .i64 a0_7] 23 (0,0))):=⟨kF⟩
  have n1_ : Aside0 (((w57.setCell ⟨gb335,0,none⟩ (.int .u64 t345)).setCell ⟨gb335,1,none⟩ (.int .u64 t346)).heap[gb324]? = some (.cells #[.int .u64 0,.int .u64 0] 82 (0,0))):=⟨kF⟩
  have n2_ : Aside0 (((w57.setCell ⟨gb335,0,none⟩ (.int .u64 t345)).setCell ⟨gb335,1,none⟩ (.int .u64 t346)).heap[gb325]? = some (.cells #[.int .u64 0,.int .u64 0] 82 (0,0))):=⟨kF⟩
  have n3_ : Aside0 (((w57.setCell ⟨gb335,0,none⟩ (.int .u64 t345)).setCell ⟨gb335,1,none⟩ (.int .u64 t346)).heap[gb331]? = some (.cells #[.int .u64 t329,.int .u64 t330] 82 (0,0))):=⟨kF⟩
  have n4_ : Aside0 (((w57.setCell ⟨gb335,0,none⟩ (.int .u64 t345)).setCell ⟨gb335,1,none⟩ (.int .u64 t346)).heap[gb335]? = some (.cells #[.int .u64 t345,.int .u64 t346] 82 (0,0))):=⟨by (with_reducible repeat (first | refine b1 ?_ _ | refine b2 ?_ | refine b3 ?_ _));refine blk_put (cs:=#[.int .u64 t345,.int .u64 t343]) ?_ 1 _ rfl;(with_reducible repeat (first | refine b1 ?_ _ | refine b2 ?_ | refine b3 ?_ _));refine blk_put (cs:=#[.int .u64 t342,.int .u64 t343]) ?_ 0 _ rfl;exact kA⟩
  have n5_ : Aside0 (Below w.heap.size w ((w57.setCell ⟨gb335,0,none⟩ (.int .u64 t345)).setCell ⟨gb335,1,none⟩ (.int .u64 t346))):=⟨bA⟩
  (try clear BK323);(try clear BK324);(try clear BK325);(try clear BK331);(try clear BK335);(try clear HB)
  generalize ((w57.setCell ⟨gb335,0,none⟩ (.int .u64 t345)).setCell ⟨gb335,1,none⟩ (.int .u64 t346)) = w59 at n0_ n1_ n2_ n3_ n4_ n5_ ⊢
  have BK323:=n0_;have BK324:=n1_;have BK325:=n2_;have BK331:=n3_;have BK335:=n4_;have HB:=n5_;clear n0_ n1_ n2_ n3_ n4_ n5_;replace BK323:=Am (blk_drew BK323.out);replace BK324:=Am (blk_drew BK324.out);replace BK325:=Am (blk_drew BK325.out);replace BK331:=Am (blk_drew BK331.out);replace BK335:=Am (blk_drew BK335.out);replace HB:=Am (below_drew1 HB.out)
  refine start_ (n:=4) (S:=fun w' => w'.cell? ⟨gb335,0,none⟩ = some (.int .u64 t345) ∧ w'.cell? ⟨gb335,1,none⟩ = some (.int .u64 t346) ∧ w'.cell? ⟨gb331,0,none⟩ = some (.int .u64 t329) ∧ w'.cell? ⟨gb331,1,none⟩ = some (.int .u64 t330)) (ds:=[]) #[nn,nn,nn,nn] (by kernel_rfl) rfl rfl ⟨cl BK335.out 0,cl BK335.out 1,cl BK331.out 0,cl BK331.out 1⟩ (fun hHeld => ?_)
  generalize w59.drew = w60 at BK323 BK324 BK325 BK331 BK335 HB hHeld ⊢
  refine tk_ 0 (some 43) #[yy,nn,nn,nn] (by kernel_rfl) hHeld ?_
  refine tk_ 1 (some 44) #[yy,yy,nn,nn] (by kernel_rfl) hHeld ?_
  refine one_ (i:=2) (N:=none) #[yy,yy,yy,nn] rfl rfl (by kernel_rfl) (by decide) (fun K hK => ?_)
  have hs61 : w60.cell? ⟨gb324,0,none⟩ = some (.int .u64 0):=(blk_cell BK324.out 0).trans rfl
  have hfs61:=blk_frozen BK324.out 0
  have hns61_0:=NB323_324.out
  have hns61_2:=NB325_324.out
  have hns61_3:=NB331_324.out
  have hns61_4:=NB335_324.out
  have hms61_0:=NB324_323.out
  have hms61_2:=NB324_325.out
  have hms61_3:=NB324_331.out
  have hms61_4:=NB324_335.out
  have hs62 : w60.cell? ⟨gb324,1,none⟩ = some (.int .u64 0):=(blk_cell BK324.out 1).trans rfl
  have hfs62:=blk_frozen BK324.out 1
  have hns62_0:=NB323_324.out
  have hns62_2:=NB325_324.out
  have hns62_3:=NB331_324.out
  have hns62_4:=NB335_324.out
  have hms62_0:=NB324_323.out
  have hms62_2:=NB324_325.out
  have hms62_3:=NB324_331.out
  have hms62_4:=NB324_335.out
  refine skip_ (w1:=?_) (by rfl) rfl ?_ ?_
  rotate_left
  ·go_simp
   rfl
  refine hK.out _ _ ⟨((cell_far (p:=⟨gb324,_,none⟩) NB335_324.out _).trans (((cell_far (p:=⟨gb324,_,none⟩) NB335_324.out _).trans (hHeld.1)))),((cell_far (p:=⟨gb324,_,none⟩) NB335_324.out _).trans (((cell_far (p:=⟨gb324,_,none⟩) NB335_324.out _).trans (hHeld.2.1)))),((cell_far (p:=⟨gb324,_,none⟩) NB331_324.out _).trans (((cell_far (p:=⟨gb324,_,none⟩) NB331_324.out _).trans (hHeld.2.2.1)))),((cell_far (p:=⟨gb324,_,none⟩) NB331_324.out _).trans (((cell_far (p:=⟨gb324,_,none⟩) NB331_324.out _).trans (hHeld.2.2.2))))⟩ (fun hHeld => ?_)
  clear hK K
  refine one_ (i:=3) (N:=none) #[yy,yy,yy,yy] rfl rfl (by kernel_rfl) (by decide) (fun K hK => ?_)
  have hs63 : w60.cell? ⟨gb325,0,none⟩ = some (.int .u64 0):=(blk_cell BK325.out 0).trans rfl
  have hfs63:=blk_frozen BK325.out 0
  have hns63_0:=NB323_325.out
  have hns63_1:=NB324_325.out
  have hns63_3:=NB331_325.out
  have hns63_4:=NB335_325.out
  have hms63_0:=NB325_323.out
  have hms63_1:=NB325_324.out
  have hms63_3:=NB325_331.out
  have hms63_4:=NB325_335.out
  have hs64 : w60.cell? ⟨gb325,1,none⟩ = some (.int .u64 0):=(blk_cell BK325.out 1).trans rfl
  have hfs64:=blk_frozen BK325.out 1
  have hns64_0:=NB323_325.out
  have hns64_1:=NB324_325.out
  have hns64_3:=NB331_325.out
  have hns64_4:=NB335_325.out
  have hms64_0:=NB325_323.out
  have hms64_1:=NB325_324.out
  have hms64_3:=NB325_331.out
  have hms64_4:=NB325_335.out
  refine skip_ (w1:=?_) (by rfl) rfl ?_ ?_
  rotate_left
  ·go_simp
   rfl
  refine hK.out _ _ ⟨((cell_far (p:=⟨gb325,_,none⟩) NB335_325.out _).trans (((cell_far (p:=⟨gb325,_,none⟩) NB335_325.out _).trans (hHeld.1)))),((cell_far (p:=⟨gb325,_,none⟩) NB335_325.out _).trans (((cell_far (p:=⟨gb325,_,none⟩) NB335_325.out _).trans (hHeld.2.1)))),((cell_far (p:=⟨gb325,_,none⟩) NB331_325.out _).trans (((cell_far (p:=⟨gb325,_,none⟩) NB331_325.out _).trans (hHeld.2.2.1)))),((cell_far (p:=⟨gb325,_,none⟩) NB331_325.out _).trans (((cell_far (p:=⟨gb325,_,none⟩) NB331_325.out _).trans (hHeld.2.2.2))))⟩ (fun hHeld => ?_)
  clear hK K
  refine done_ (by kernel_rfl) ?_
  try go_wp2
  refine bodyPost_ret (results_cc rfl _ _ gb324 gb325 82 82 #[.int .u64 t345,.int .u64 t346] #[.int .u64 t329,.int .u64 t330] (0,0) (0,0) _ _ rfl (by (with_reducible repeat (first | refine b1 ?_ _ | refine b2 ?_ | refine b3 ?_ _));refine blk_far ?_ NB324_325.out _;(with_reducible repeat (first | refine b1 ?_ _ | refine b2 ?_ | refine b3 ?_ _));refine blk_far ?_ NB324_325.out _;(with_reducible repeat (first | refine b1 ?_ _ | refine b2 ?_ | refine b3 ?_ _));refine blk_put (cs:=#[.int .u64 t345,.int .u64 0]) ?_ 1 _ rfl;(with_reducible repeat (first | refine b1 ?_ _ | refine b2 ?_ | refine b3 ?_ _));refine blk_put (cs:=#[.int .u64 0,.int .u64 0]) ?_ 0 _ rfl;exact kA) Tryz.underlying82 rfl (by kernel_rfl) rfl (by (with_reducible repeat (first | refine b1 ?_ _ | refine b2 ?_ | refine b3 ?_ _));refine blk_put (cs:=#[.int .u64 t329,.int .u64 0]) ?_ 1 _ rfl;(with_reducible repeat (first | refine b1 ?_ _ | refine b2 ?_ | refine b3 ?_ _));refine blk_put (cs:=#[.int .u64 0,.int .u64 0]) ?_ 0 _ rfl;(with_reducible repeat (first | refine b1 ?_ _ | refine b2 ?_ | refine b3 ?_ _));refine blk_far ?_ NB325_324.out _;(with_reducible repeat (first | refine b1 ?_ _ | refine b2 ?_ | refine b3 ?_ _));refine blk_far ?_ NB325_324.out _;exact kA) Tryz.underlying82 rfl (by kernel_rfl)) rfl ?_
  exact eA

def backfillref11_lead.f (a0_0 : Int) (a0_1 : Int) (a0_2 : Int) (a0_3 : Int) (a0_4 : Int) (a0_5 : Int) (a0_6 : Int) (a0_7 : Int) : Option (Int):=if a0_3 = 0 then (none) else (some (wrap64 (Int.tdiv (wrap64 (a0_4 + (wrap64 (a0_5 * a0_0)))) a0_3)))
theorem backfillref11_lead.calls (a0_0 : Int) (a0_1 : Int) (a0_2 : Int) (a0_3 : Int) (a0_4 : Int) (a0_5 : Int) (a0_6 : Int) (a0_7 : Int) (r : Int) (w : World) (h : backfillref11_lead.f a0_0 a0_1 a0_2 a0_3 a0_4 a0_5 a0_6 a0_7 = some r) :
  Calls Tryz.prog 86 #[.agg #[.int .i64 a0_0,.int .i64 a0_1,.int .i64 a0_2,.int .i64 a0_3,.int .i64 a0_4,.int .i64 a0_5,.int .i64 a0_6,.int .i64 a0_7]] w fun e w' => e = .returned (.int .i64 r) ∧ Below w.heap.size w w':=by
 have hu23:=Tryz.underlying23
 have HB:=Am (Below.refl w.heap.size w)
 have H : (if a0_3 = 0 then (none) else (some (wrap64 (Int.tdiv (wrap64 (a0_4 + (wrap64 (a0_5 * a0_0)))) a0_3)))) = some r:=h
 clear h
 by_cases c2 : a0_3 = 0
 ·rw [if_pos c2] at H
  exact absurd H (by simp)
 ·rw [if_neg c2] at H
  have c2b0 : (a0_3 == 0) = false:=beq_eq_false_iff_ne.mpr c2
  have c2b1 : (a0_3 != 0) = true:=bne_iff_ne.mpr c2
  obtain rfl:=Option.some.inj H
  go_enter Tryz.func86,Tryz.ntmps86
  go_wp2_with (first | ((with_reducible refine gate_dst (N:=1) rfl ?_);refine bxA 1 #[.int .i64 a0_0,.int .i64 a0_1,.int .i64 a0_2,.int .i64 a0_3,.int .i64 a0_4,.int .i64 a0_5,.int .i64 a0_6,.int .i64 a0_7] 23 ?_;intro gb348 hg w3 hbox hb;have BK348:=Am (hbox);have GW348:=Am (gwA hg bA);have GE348:=Am (gwA hg bA);replace HB:=Am (below_step bA hb);clear hb hbox hg;obtain ⟨hcz4_0,hcz4_1,hcz4_2,hcz4_3,hcz4_4,hcz4_5,hcz4_6,hcz4_7,hfz4_0,hfz4_1,hfz4_2,hfz4_3,hfz4_4,hfz4_5,hfz4_6,hfz4_7⟩:=k8 BK348.out))
  go_ret
  exact eA

def backfillref11_bound.f (a0_0 : Int) (a0_1 : Int) (a0_2 : Int) (a0_3 : Int) (a0_4 : Int) (a0_5 : Int) (a0_6 : Int) (a0_7 : Int) : Option (Int):=(backfillref11_lead.f a0_0 a0_1 a0_2 a0_3 a0_4 a0_5 a0_6 a0_7).bind fun t350 => (some (wrap64 ((wrap64 (t350 + 1)) + (wrap64 (a0_1 * a0_2)))))
def backfillref11_bound.T1 : Bool × List (List Nat × List Nat):=(true,[([],[]),([0],[0]),([1],[1]),([],[]),([3],[3]),([],[]),([5],[5]),([4,6],[4,6]),([2,7],[2,7]),([8,1,0,1,2,3,4,5,6,7,8],[8])])
def backfillref11_bound.B1 : List Nat:=[0,1,3,0,8,0,32,120,255,511]
theorem backfillref11_bound.tab1 : rtab .any (opsOf Tryz.f51 1) = backfillref11_bound.T1:=by kernel_rfl
theorem backfillref11_bound.bits1 : waitsOk backfillref11_bound.T1.2 backfillref11_bound.B1 = true:=by kernel_rfl
theorem backfillref11_bound.calls (a0_0 : Int) (a0_1 : Int) (a0_2 : Int) (a0_3 : Int) (a0_4 : Int) (a0_5 : Int) (a0_6 : Int) (a0_7 : Int) (r : Int) (w : World) (h : backfillref11_bound.f a0_0 a0_1 a0_2 a0_3 a0_4 a0_5 a0_6 a0_7 = some r) :
  Calls Tryz.prog 51 #[.agg #[.int .i64 a0_0,.int .i64 a0_1,.int .i64 a0_2,.int .i64 a0_3,.int .i64 a0_4,.int .i64 a0_5,.int .i64 a0_6,.int .i64 a0_7]] w fun e w' => e = .returned (.int .i64 r) ∧ Below w.heap.size w w':=by
 have hu23:=Tryz.underlying23
 have HB:=Am (Below.refl w.heap.size w)
 have H : ((backfillref11_lead.f a0_0 a0_1 a0_2 a0_3 a0_4 a0_5 a0_6 a0_7).bind fun t350 => (some (wrap64 ((wrap64 (t350 + 1)) + (wrap64 (a0_1 * a0_2)))))) = some r:=h
 clear h;obtain ⟨t350,A2,H⟩:=bnd H;(try dsimp only at H)
 obtain rfl:=Option.some.inj H
 go_enter Tryz.func51,Tryz.ntmps51
 try go_wp2_with (first | ((with_reducible refine gate_dst (N:=1) rfl ?_);refine bxA 1 #[.int .i64 a0_0,.int .i64 a0_1,.int .i64 a0_2,.int .i64 a0_3,.int .i64 a0_4,.int .i64 a0_5,.int .i64 a0_6,.int .i64 a0_7] 23 ?_;intro gb349 hg w3 hbox hb;have BK349:=Am (hbox);have GW349:=Am (gwA hg bA);have GE349:=Am (gwA hg bA);replace HB:=Am (below_step bA hb);clear hb hbox hg))
 replace BK349:=Am (blk_drew BK349.out);replace HB:=Am (below_drew1 HB.out)
 refine start_ (n:=10) (S:=fun w' => w'.cell? ⟨gb349,0,none⟩ = some (.int .i64 a0_0) ∧ w'.cell? ⟨gb349,1,none⟩ = some (.int .i64 a0_1) ∧ w'.cell? ⟨gb349,2,none⟩ = some (.int .i64 a0_2) ∧ w'.cell? ⟨gb349,3,none⟩ = some (.int .i64 a0_3) ∧ w'.cell? ⟨gb349,4,none⟩ = some (.int .i64 a0_4) ∧ w'.cell? ⟨gb349,5,none⟩ = some (.int .i64 a0_5) ∧ w'.cell? ⟨gb349,6,none⟩ = some (.int .i64 a0_6) ∧ w'.cell? ⟨gb349,7,none⟩ = some (.int .i64 a0_7)) (ds:=[]) #[nn,nn,nn,nn,nn,nn,nn,nn,nn,nn] (by kernel_rfl) rfl rfl (q8 BK349.out) (fun hHeld => ?_);refine with_tabW backfillref11_bound.tab1 backfillref11_bound.bits1 (fun HT_ HW_ => ?_)
 generalize w3.drew = w4 at BK349 HB hHeld ⊢
 refine pu_ 3 (some 6) #[nn,nn,nn,yy,nn,nn,nn,nn,nn,nn] (any_of HT_.out (by kernel_rfl)) ?_
 refine pu_ 5 (some 8) #[nn,nn,nn,yy,nn,yy,nn,nn,nn,nn] (any_of HT_.out (by kernel_rfl)) ?_
 refine tk_ 0 (some 3) #[yy,nn,nn,yy,nn,yy,nn,nn,nn,nn] (take_ofW HT_.out HW_.out (by kernel_rfl)) hHeld ?_
 refine tk_ 4 (some 7) #[yy,nn,nn,yy,yy,yy,nn,nn,nn,nn] (take_ofW HT_.out HW_.out (by kernel_rfl)) hHeld ?_
 refine tk_ 6 (some 9) #[yy,nn,nn,yy,yy,yy,yy,nn,nn,nn] (take_ofW HT_.out HW_.out (by kernel_rfl)) hHeld ?_
 refine pu_ 7 (some 10) #[yy,nn,nn,yy,yy,yy,yy,yy,nn,nn] (any_of HT_.out (by kernel_rfl)) ?_
 refine one_ (i:=1) (N:=some 4) #[yy,yy,nn,yy,yy,yy,yy,yy,nn,nn] rfl rfl (one_of HT_.out (by kernel_rfl)) (by decide) (fun K hK => ?_)
 refine goes_ Tryz.func86 (by kernel_rfl) rfl #[.agg #[.int .i64 a0_0,.int .i64 a0_1,.int .i64 a0_2,.int .i64 a0_3,.int .i64 a0_4,.int .i64 a0_5,.int .i64 a0_6,.int .i64 a0_7]] (by rfl) rfl rfl aA ?_
 with_reducible refine (backfillref11_lead.calls a0_0 a0_1 a0_2 a0_3 a0_4 a0_5 a0_6 a0_7 t350 _ A2.out).mono ?_
 rintro e w5 ⟨rfl,hb⟩
 refine ⟨_,rfl,?_⟩;replace BK349:=Am (blk_below (g:=gb349) kA hb);replace HB:=Am (below_step bA hb);(try clear hb)
 refine hK.out _ _ (q8 BK349.out) (fun hHeld => ?_)
 clear hK K
 refine nm_ ?_
 refine pu_ 2 (some 5) #[yy,yy,yy,yy,yy,yy,yy,yy,nn,nn] (any_of HT_.out (by kernel_rfl)) ?_
 refine pu_ 8 (some 11) #[yy,yy,yy,yy,yy,yy,yy,yy,yy,nn] (any_of HT_.out (by kernel_rfl)) ?_
 refine pu_ 9 (some 2) #[yy,yy,yy,yy,yy,yy,yy,yy,yy,yy] (any_of HT_.out (by kernel_rfl)) ?_
 refine done_ (done_of HT_.out (by kernel_rfl)) ?_
 try go_wp2
 go_ret
 exact eA

end Go.Proofs.YtbhijfbjdbjpbaaGreatDoor.GSH
