/- The texts of this claim, put together by program, what it does not name left out: part 3. Conditions: each theorem's own. -/
import Derived.Test.YtodibpddlibneaaGreatDoorY2
set_option maxHeartbeats 8000000
set_option maxRecDepth 100000
namespace Go.Proofs.YtodibpddlibneaaGreatDoor.GSH
open Go.RowKit YtodibpddlibneaaGreatDoorW.PrintWords YtodibpddlibneaaGreatDoorW.PrintLast YtodibpddlibneaaGreatDoorW.PrintMore
attribute [local go_sem] max2_int min2_int max_two min_two max_three min_three max_four min_four   -- for this text's walks alone
set_option linter.unusedVariables false
set_option linter.unusedSimpArgs false
def bits_Len64.j0 : Nat → Int → Int → Option (Int)
 | 0,_,_ => none
 | k + 1,x0,x2 => if x0 ≥ 65536 then (if (x0 / 65536) ≥ 256 then (if 0 ≤ (((x0 / 65536) / 256) % 256) then (if (((x0 / 65536) / 256) % 256) < 256 then (some (wrap64 ((wrap64 ((wrap64 (x2 + 16)) + 8)) + (wrap64 (bt (⟨#[0,1,2,2,3,3,3,3,4,4,4,4,4,4,4,4,5,5,5,5,5,5,5,5,5,5,5,5,5,5,5,5,6,6,6,6,6,6,6,6,6,6,6,6,6,6,6,6,6,6,6,6,6,6,6,6,6,6,6,6,6,6,6,6,7,7,7,7,7,7,7,7,7,7,7,7,7,7,7,7,7,7,7,7,7,7,7,7,7,7,7,7,7,7,7,7,7,7,7,7,7,7,7,7,7,7,7,7,7,7,7,7,7,7,7,7,7,7,7,7,7,7,7,7,7,7,7,7,8,8,8,8,8,8,8,8,8,8,8,8,8,8,8,8,8,8,8,8,8,8,8,8,8,8,8,8,8,8,8,8,8,8,8,8,8,8,8,8,8,8,8,8,8,8,8,8,8,8,8,8,8,8,8,8,8,8,8,8,8,8,8,8,8,8,8,8,8,8,8,8,8,8,8,8,8,8,8,8,8,8,8,8,8,8,8,8,8,8,8,8,8,8,8,8,8,8,8,8,8,8,8,8,8,8,8,8,8,8,8,8,8,8,8,8,8,8,8,8,8,8,8,8,8,8,8,8]⟩ : ByteArray) (((x0 / 65536) / 256) % 256)))))) else (none)) else (none)) else (if 0 ≤ ((x0 / 65536) % 256) then (if ((x0 / 65536) % 256) < 256 then (some (wrap64 ((wrap64 (x2 + 16)) + (wrap64 (bt (⟨#[0,1,2,2,3,3,3,3,4,4,4,4,4,4,4,4,5,5,5,5,5,5,5,5,5,5,5,5,5,5,5,5,6,6,6,6,6,6,6,6,6,6,6,6,6,6,6,6,6,6,6,6,6,6,6,6,6,6,6,6,6,6,6,6,7,7,7,7,7,7,7,7,7,7,7,7,7,7,7,7,7,7,7,7,7,7,7,7,7,7,7,7,7,7,7,7,7,7,7,7,7,7,7,7,7,7,7,7,7,7,7,7,7,7,7,7,7,7,7,7,7,7,7,7,7,7,7,7,8,8,8,8,8,8,8,8,8,8,8,8,8,8,8,8,8,8,8,8,8,8,8,8,8,8,8,8,8,8,8,8,8,8,8,8,8,8,8,8,8,8,8,8,8,8,8,8,8,8,8,8,8,8,8,8,8,8,8,8,8,8,8,8,8,8,8,8,8,8,8,8,8,8,8,8,8,8,8,8,8,8,8,8,8,8,8,8,8,8,8,8,8,8,8,8,8,8,8,8,8,8,8,8,8,8,8,8,8,8,8,8,8,8,8,8,8,8,8,8,8,8,8,8,8,8,8,8]⟩ : ByteArray) ((x0 / 65536) % 256)))))) else (none)) else (none))) else (if x0 ≥ 256 then (if 0 ≤ ((x0 / 256) % 256) then (if ((x0 / 256) % 256) < 256 then (some (wrap64 ((wrap64 (x2 + 8)) + (wrap64 (bt (⟨#[0,1,2,2,3,3,3,3,4,4,4,4,4,4,4,4,5,5,5,5,5,5,5,5,5,5,5,5,5,5,5,5,6,6,6,6,6,6,6,6,6,6,6,6,6,6,6,6,6,6,6,6,6,6,6,6,6,6,6,6,6,6,6,6,7,7,7,7,7,7,7,7,7,7,7,7,7,7,7,7,7,7,7,7,7,7,7,7,7,7,7,7,7,7,7,7,7,7,7,7,7,7,7,7,7,7,7,7,7,7,7,7,7,7,7,7,7,7,7,7,7,7,7,7,7,7,7,7,8,8,8,8,8,8,8,8,8,8,8,8,8,8,8,8,8,8,8,8,8,8,8,8,8,8,8,8,8,8,8,8,8,8,8,8,8,8,8,8,8,8,8,8,8,8,8,8,8,8,8,8,8,8,8,8,8,8,8,8,8,8,8,8,8,8,8,8,8,8,8,8,8,8,8,8,8,8,8,8,8,8,8,8,8,8,8,8,8,8,8,8,8,8,8,8,8,8,8,8,8,8,8,8,8,8,8,8,8,8,8,8,8,8,8,8,8,8,8,8,8,8,8,8,8,8,8,8]⟩ : ByteArray) ((x0 / 256) % 256)))))) else (none)) else (none)) else (if 0 ≤ ((x0) % 256) then (if ((x0) % 256) < 256 then (some (wrap64 (x2 + (wrap64 (bt (⟨#[0,1,2,2,3,3,3,3,4,4,4,4,4,4,4,4,5,5,5,5,5,5,5,5,5,5,5,5,5,5,5,5,6,6,6,6,6,6,6,6,6,6,6,6,6,6,6,6,6,6,6,6,6,6,6,6,6,6,6,6,6,6,6,6,7,7,7,7,7,7,7,7,7,7,7,7,7,7,7,7,7,7,7,7,7,7,7,7,7,7,7,7,7,7,7,7,7,7,7,7,7,7,7,7,7,7,7,7,7,7,7,7,7,7,7,7,7,7,7,7,7,7,7,7,7,7,7,7,8,8,8,8,8,8,8,8,8,8,8,8,8,8,8,8,8,8,8,8,8,8,8,8,8,8,8,8,8,8,8,8,8,8,8,8,8,8,8,8,8,8,8,8,8,8,8,8,8,8,8,8,8,8,8,8,8,8,8,8,8,8,8,8,8,8,8,8,8,8,8,8,8,8,8,8,8,8,8,8,8,8,8,8,8,8,8,8,8,8,8,8,8,8,8,8,8,8,8,8,8,8,8,8,8,8,8,8,8,8,8,8,8,8,8,8,8,8,8,8,8,8,8,8,8,8,8,8]⟩ : ByteArray) ((x0) % 256)))))) else (none)) else (none)))
def bits_Len64.f (k : Nat) (a0 : Int) : Option (Int):=if a0 ≥ 4294967296 then (bits_Len64.j0 k (a0 / 4294967296) 32) else (bits_Len64.j0 k a0 0)
theorem bits_Len64.mono_l : ∀ k,(∀ y0 y1,LeO (bits_Len64.j0 k y0 y1) (bits_Len64.j0 (k + 1) y0 y1))
 | 0 => fun _ _ r h => by simp [bits_Len64.j0] at h
 | k + 1 => by
  have ih0:=bits_Len64.mono_l k
  ·intro y0 y1;unfold bits_Len64.j0
   repeat' first
   | (with_reducible exact ih0 _ _)
   | (with_reducible exact LeO.refl _)
   | (with_reducible exact LeO.none _)
   | (with_reducible refine LeO.ite ?_ ?_)
   | (with_reducible refine LeO.bind ?_ (fun _ => ?_))
   | exact ih0 _ _
   | exact LeO.none _
   | refine LeO.ite ?_ ?_
   | refine LeO.bind ?_ (fun _ => ?_)
theorem bits_Len64.mono : ∀ a0 k,LeO (bits_Len64.f k a0) (bits_Len64.f (k + 1) a0):=by
 intro a0 k;have ih0:=bits_Len64.mono_l k;unfold bits_Len64.f
 repeat' first
   | (with_reducible exact ih0 _ _)
   | (with_reducible exact LeO.refl _)
   | (with_reducible exact LeO.none _)
   | (with_reducible refine LeO.ite ?_ ?_)
   | (with_reducible refine LeO.bind ?_ (fun _ => ?_))
   | exact ih0 _ _
   | exact LeO.none _
   | refine LeO.ite ?_ ?_
   | refine LeO.bind ?_ (fun _ => ?_)
theorem bits_Len64.calls (k : Nat) (a0 : Int) (r : Int) (w : World) (h : bits_Len64.f k a0 = some r) :
  Calls Tryz.prog 116 #[.int .u64 a0] w fun e w' => e = .returned (.int .i64 r) ∧ Drawn0 w w':=by
 have H : (if a0 ≥ 4294967296 then (bits_Len64.j0 k (a0 / 4294967296) 32) else (bits_Len64.j0 k a0 0)) = some r:=h;clear h;have HC2:=Am H;clear H;go_enter Tryz.func116,Tryz.ntmps116
 go_upto_if 4 with (fail)
 go_cut [0,2] (fun v0 v2 wc => ∃ (kq : Nat) (x0_1 : Int) (x2_1 : Int),v0 = .int .u64 x0_1 ∧ v2 = .int .i64 x2_1 ∧ Aside0 (bits_Len64.j0 kq x0_1 x2_1 = some r) ∧ Aside0 (kq ≤ k) ∧ Drawn0 w wc)
 case first =>
  have H:=HC2.out;clear HC2
  by_cases c3 : a0 ≥ 4294967296
  ·rw [if_pos c3] at H;have c3b0 : decide (4294967296 ≤ a0) = true:=dT c3;clear c3
   (first | rw [c3b0] | (simp only [i64_w,i32_w];rw [c3b0]) | skip)
   have H':=Am H;clear H;go_wp2
   go_meet
   case rel => exact ⟨_,(a0 / 4294967296),(32),(by first | rfl | (simp;done) | (simp [*];done)),(by first | rfl | (simp;done) | (simp [*];done)),H',⟨by first | omega | exact Nat.le_refl _⟩,by repeat (first | exact Drawn0.refl _ | apply Drawn0.step)⟩
  ·rw [if_neg c3] at H;have c3b0 : decide (4294967296 ≤ a0) = false:=dF c3;clear c3
   (first | rw [c3b0] | (simp only [i64_w,i32_w];rw [c3b0]) | skip)
   have H':=Am H;clear H;go_wp2
   go_meet
   case rel => exact ⟨_,(a0),(0),(by first | rfl | (simp;done) | (simp [*];done)),(by first | rfl | (simp;done) | (simp [*];done)),H',⟨by first | omega | exact Nat.le_refl _⟩,by repeat (first | exact Drawn0.refl _ | apply Drawn0.step)⟩
 case rest =>
  clear HC2
  try clear c1
  try clear p2
  try clear c3
  try clear c3b0
  obtain ⟨kq,x0_1,x2_1,rfl,rfl,HA,HJ1,⟨mc1,rfl⟩⟩:=hcut
  cases kq with
  | zero => exact absurd HA.out (by simp [bits_Len64.j0])
  | succ kj1 =>
   have H:=HA.out;clear HA;simp only [bits_Len64.j0] at H
   by_cases c4 : x0_1 ≥ 65536
   ·rw [if_pos c4] at H;have c4b0 : decide (65536 ≤ x0_1) = true:=dT c4;clear c4
    by_cases c5 : (x0_1 / 65536) ≥ 256
    ·rw [if_pos c5] at H;have c5b0 : decide (256 ≤ (x0_1 / 65536)) = true:=dT c5;clear c5;obtain ⟨ji6,hji6⟩ : ∃ j_ : Int,(((x0_1 / 65536) / 256) % 256) = j_:=⟨_,rfl⟩;replace H : (if 0 ≤ (ji6) then (if (ji6) < 256 then (some (wrap64 ((wrap64 ((wrap64 (x2_1 + 16)) + 8)) + (wrap64 (bt (⟨#[0,1,2,2,3,3,3,3,4,4,4,4,4,4,4,4,5,5,5,5,5,5,5,5,5,5,5,5,5,5,5,5,6,6,6,6,6,6,6,6,6,6,6,6,6,6,6,6,6,6,6,6,6,6,6,6,6,6,6,6,6,6,6,6,7,7,7,7,7,7,7,7,7,7,7,7,7,7,7,7,7,7,7,7,7,7,7,7,7,7,7,7,7,7,7,7,7,7,7,7,7,7,7,7,7,7,7,7,7,7,7,7,7,7,7,7,7,7,7,7,7,7,7,7,7,7,7,7,8,8,8,8,8,8,8,8,8,8,8,8,8,8,8,8,8,8,8,8,8,8,8,8,8,8,8,8,8,8,8,8,8,8,8,8,8,8,8,8,8,8,8,8,8,8,8,8,8,8,8,8,8,8,8,8,8,8,8,8,8,8,8,8,8,8,8,8,8,8,8,8,8,8,8,8,8,8,8,8,8,8,8,8,8,8,8,8,8,8,8,8,8,8,8,8,8,8,8,8,8,8,8,8,8,8,8,8,8,8,8,8,8,8,8,8,8,8,8,8,8,8,8,8,8,8,8,8]⟩ : ByteArray) (ji6)))))) else (none)) else (none)) = some r:=by first | (rw [hji6] at H;exact H) | (simp only [hji6] at H ⊢;exact H)
     by_cases c7 : 0 ≤ (ji6)
     ·rw [if_pos c7] at H;have c7b0 : decide (0 ≤ (ji6)) = true:=dT c7;clear c7
      by_cases c8 : (ji6) < 256
      ·rw [if_pos c8] at H;have c8b0 : decide ((ji6) < 256) = true:=dT c8;clear c8;obtain rfl:=oI H;have p9 : 0 ≤ ((ji6) : Int):=of_decide_eq_true (by first | (with_reducible assumption) | assumption);have q9 : (ji6) < (256 : Int):=of_decide_eq_true (by first | (with_reducible assumption) | assumption);have hx9:=bt_at (⟨#[0,1,2,2,3,3,3,3,4,4,4,4,4,4,4,4,5,5,5,5,5,5,5,5,5,5,5,5,5,5,5,5,6,6,6,6,6,6,6,6,6,6,6,6,6,6,6,6,6,6,6,6,6,6,6,6,6,6,6,6,6,6,6,6,7,7,7,7,7,7,7,7,7,7,7,7,7,7,7,7,7,7,7,7,7,7,7,7,7,7,7,7,7,7,7,7,7,7,7,7,7,7,7,7,7,7,7,7,7,7,7,7,7,7,7,7,7,7,7,7,7,7,7,7,7,7,7,7,8,8,8,8,8,8,8,8,8,8,8,8,8,8,8,8,8,8,8,8,8,8,8,8,8,8,8,8,8,8,8,8,8,8,8,8,8,8,8,8,8,8,8,8,8,8,8,8,8,8,8,8,8,8,8,8,8,8,8,8,8,8,8,8,8,8,8,8,8,8,8,8,8,8,8,8,8,8,8,8,8,8,8,8,8,8,8,8,8,8,8,8,8,8,8,8,8,8,8,8,8,8,8,8,8,8,8,8,8,8,8,8,8,8,8,8,8,8,8,8,8,8,8,8,8,8,8,8]⟩ : ByteArray) (ji6);replace p9:=eq_true p9;replace q9:=eq_true q9;go_wp2;go_ret;exact ⟨by first | rfl | (simp;done) | (simp only [← hji6] <;> (first | rfl | simp)) | (simp [*];done),by repeat (first | exact Drawn0.refl _ | apply Drawn0.step)⟩
      ·rw [if_neg c8] at H;exact absurd H (by simp)
     ·rw [if_neg c7] at H;exact absurd H (by simp)
    ·rw [if_neg c5] at H;have c5b0 : decide (256 ≤ (x0_1 / 65536)) = false:=dF c5;clear c5;obtain ⟨ji10,hji10⟩ : ∃ j_ : Int,((x0_1 / 65536) % 256) = j_:=⟨_,rfl⟩;replace H : (if 0 ≤ (ji10) then (if (ji10) < 256 then (some (wrap64 ((wrap64 (x2_1 + 16)) + (wrap64 (bt (⟨#[0,1,2,2,3,3,3,3,4,4,4,4,4,4,4,4,5,5,5,5,5,5,5,5,5,5,5,5,5,5,5,5,6,6,6,6,6,6,6,6,6,6,6,6,6,6,6,6,6,6,6,6,6,6,6,6,6,6,6,6,6,6,6,6,7,7,7,7,7,7,7,7,7,7,7,7,7,7,7,7,7,7,7,7,7,7,7,7,7,7,7,7,7,7,7,7,7,7,7,7,7,7,7,7,7,7,7,7,7,7,7,7,7,7,7,7,7,7,7,7,7,7,7,7,7,7,7,7,8,8,8,8,8,8,8,8,8,8,8,8,8,8,8,8,8,8,8,8,8,8,8,8,8,8,8,8,8,8,8,8,8,8,8,8,8,8,8,8,8,8,8,8,8,8,8,8,8,8,8,8,8,8,8,8,8,8,8,8,8,8,8,8,8,8,8,8,8,8,8,8,8,8,8,8,8,8,8,8,8,8,8,8,8,8,8,8,8,8,8,8,8,8,8,8,8,8,8,8,8,8,8,8,8,8,8,8,8,8,8,8,8,8,8,8,8,8,8,8,8,8,8,8,8,8,8,8]⟩ : ByteArray) (ji10)))))) else (none)) else (none)) = some r:=by first | (rw [hji10] at H;exact H) | (simp only [hji10] at H ⊢;exact H)
     by_cases c11 : 0 ≤ (ji10)
     ·rw [if_pos c11] at H;have c11b0 : decide (0 ≤ (ji10)) = true:=dT c11;clear c11
      by_cases c12 : (ji10) < 256
      ·rw [if_pos c12] at H;have c12b0 : decide ((ji10) < 256) = true:=dT c12;clear c12;obtain rfl:=oI H;have p13 : 0 ≤ ((ji10) : Int):=of_decide_eq_true (by first | (with_reducible assumption) | assumption);have q13 : (ji10) < (256 : Int):=of_decide_eq_true (by first | (with_reducible assumption) | assumption);have hx13:=bt_at (⟨#[0,1,2,2,3,3,3,3,4,4,4,4,4,4,4,4,5,5,5,5,5,5,5,5,5,5,5,5,5,5,5,5,6,6,6,6,6,6,6,6,6,6,6,6,6,6,6,6,6,6,6,6,6,6,6,6,6,6,6,6,6,6,6,6,7,7,7,7,7,7,7,7,7,7,7,7,7,7,7,7,7,7,7,7,7,7,7,7,7,7,7,7,7,7,7,7,7,7,7,7,7,7,7,7,7,7,7,7,7,7,7,7,7,7,7,7,7,7,7,7,7,7,7,7,7,7,7,7,8,8,8,8,8,8,8,8,8,8,8,8,8,8,8,8,8,8,8,8,8,8,8,8,8,8,8,8,8,8,8,8,8,8,8,8,8,8,8,8,8,8,8,8,8,8,8,8,8,8,8,8,8,8,8,8,8,8,8,8,8,8,8,8,8,8,8,8,8,8,8,8,8,8,8,8,8,8,8,8,8,8,8,8,8,8,8,8,8,8,8,8,8,8,8,8,8,8,8,8,8,8,8,8,8,8,8,8,8,8,8,8,8,8,8,8,8,8,8,8,8,8,8,8,8,8,8,8]⟩ : ByteArray) (ji10);replace p13:=eq_true p13;replace q13:=eq_true q13;go_wp2;go_ret;exact ⟨by first | rfl | (simp;done) | (simp only [← hji10] <;> (first | rfl | simp)) | (simp [*];done),by repeat (first | exact Drawn0.refl _ | apply Drawn0.step)⟩
      ·rw [if_neg c12] at H;exact absurd H (by simp)
     ·rw [if_neg c11] at H;exact absurd H (by simp)
   ·rw [if_neg c4] at H;have c4b0 : decide (65536 ≤ x0_1) = false:=dF c4;clear c4
    by_cases c14 : x0_1 ≥ 256
    ·rw [if_pos c14] at H;have c14b0 : decide (256 ≤ x0_1) = true:=dT c14;clear c14;obtain ⟨ji15,hji15⟩ : ∃ j_ : Int,((x0_1 / 256) % 256) = j_:=⟨_,rfl⟩;replace H : (if 0 ≤ (ji15) then (if (ji15) < 256 then (some (wrap64 ((wrap64 (x2_1 + 8)) + (wrap64 (bt (⟨#[0,1,2,2,3,3,3,3,4,4,4,4,4,4,4,4,5,5,5,5,5,5,5,5,5,5,5,5,5,5,5,5,6,6,6,6,6,6,6,6,6,6,6,6,6,6,6,6,6,6,6,6,6,6,6,6,6,6,6,6,6,6,6,6,7,7,7,7,7,7,7,7,7,7,7,7,7,7,7,7,7,7,7,7,7,7,7,7,7,7,7,7,7,7,7,7,7,7,7,7,7,7,7,7,7,7,7,7,7,7,7,7,7,7,7,7,7,7,7,7,7,7,7,7,7,7,7,7,8,8,8,8,8,8,8,8,8,8,8,8,8,8,8,8,8,8,8,8,8,8,8,8,8,8,8,8,8,8,8,8,8,8,8,8,8,8,8,8,8,8,8,8,8,8,8,8,8,8,8,8,8,8,8,8,8,8,8,8,8,8,8,8,8,8,8,8,8,8,8,8,8,8,8,8,8,8,8,8,8,8,8,8,8,8,8,8,8,8,8,8,8,8,8,8,8,8,8,8,8,8,8,8,8,8,8,8,8,8,8,8,8,8,8,8,8,8,8,8,8,8,8,8,8,8,8,8]⟩ : ByteArray) (ji15)))))) else (none)) else (none)) = some r:=by first | (rw [hji15] at H;exact H) | (simp only [hji15] at H ⊢;exact H)
     by_cases c16 : 0 ≤ (ji15)
     ·rw [if_pos c16] at H;have c16b0 : decide (0 ≤ (ji15)) = true:=dT c16;clear c16
      by_cases c17 : (ji15) < 256
      ·rw [if_pos c17] at H;have c17b0 : decide ((ji15) < 256) = true:=dT c17;clear c17;obtain rfl:=oI H;have p18 : 0 ≤ ((ji15) : Int):=of_decide_eq_true (by first | (with_reducible assumption) | assumption);have q18 : (ji15) < (256 : Int):=of_decide_eq_true (by first | (with_reducible assumption) | assumption);have hx18:=bt_at (⟨#[0,1,2,2,3,3,3,3,4,4,4,4,4,4,4,4,5,5,5,5,5,5,5,5,5,5,5,5,5,5,5,5,6,6,6,6,6,6,6,6,6,6,6,6,6,6,6,6,6,6,6,6,6,6,6,6,6,6,6,6,6,6,6,6,7,7,7,7,7,7,7,7,7,7,7,7,7,7,7,7,7,7,7,7,7,7,7,7,7,7,7,7,7,7,7,7,7,7,7,7,7,7,7,7,7,7,7,7,7,7,7,7,7,7,7,7,7,7,7,7,7,7,7,7,7,7,7,7,8,8,8,8,8,8,8,8,8,8,8,8,8,8,8,8,8,8,8,8,8,8,8,8,8,8,8,8,8,8,8,8,8,8,8,8,8,8,8,8,8,8,8,8,8,8,8,8,8,8,8,8,8,8,8,8,8,8,8,8,8,8,8,8,8,8,8,8,8,8,8,8,8,8,8,8,8,8,8,8,8,8,8,8,8,8,8,8,8,8,8,8,8,8,8,8,8,8,8,8,8,8,8,8,8,8,8,8,8,8,8,8,8,8,8,8,8,8,8,8,8,8,8,8,8,8,8,8]⟩ : ByteArray) (ji15);replace p18:=eq_true p18;replace q18:=eq_true q18;go_wp2;go_ret;exact ⟨by first | rfl | (simp;done) | (simp only [← hji15] <;> (first | rfl | simp)) | (simp [*];done),by repeat (first | exact Drawn0.refl _ | apply Drawn0.step)⟩
      ·rw [if_neg c17] at H;exact absurd H (by simp)
     ·rw [if_neg c16] at H;exact absurd H (by simp)
    ·rw [if_neg c14] at H;have c14b0 : decide (256 ≤ x0_1) = false:=dF c14;clear c14;obtain ⟨ji19,hji19⟩ : ∃ j_ : Int,((x0_1) % 256) = j_:=⟨_,rfl⟩;replace H : (if 0 ≤ (ji19) then (if (ji19) < 256 then (some (wrap64 (x2_1 + (wrap64 (bt (⟨#[0,1,2,2,3,3,3,3,4,4,4,4,4,4,4,4,5,5,5,5,5,5,5,5,5,5,5,5,5,5,5,5,6,6,6,6,6,6,6,6,6,6,6,6,6,6,6,6,6,6,6,6,6,6,6,6,6,6,6,6,6,6,6,6,7,7,7,7,7,7,7,7,7,7,7,7,7,7,7,7,7,7,7,7,7,7,7,7,7,7,7,7,7,7,7,7,7,7,7,7,7,7,7,7,7,7,7,7,7,7,7,7,7,7,7,7,7,7,7,7,7,7,7,7,7,7,7,7,8,8,8,8,8,8,8,8,8,8,8,8,8,8,8,8,8,8,8,8,8,8,8,8,8,8,8,8,8,8,8,8,8,8,8,8,8,8,8,8,8,8,8,8,8,8,8,8,8,8,8,8,8,8,8,8,8,8,8,8,8,8,8,8,8,8,8,8,8,8,8,8,8,8,8,8,8,8,8,8,8,8,8,8,8,8,8,8,8,8,8,8,8,8,8,8,8,8,8,8,8,8,8,8,8,8,8,8,8,8,8,8,8,8,8,8,8,8,8,8,8,8,8,8,8,8,8,8]⟩ : ByteArray) (ji19)))))) else (none)) else (none)) = some r:=by first | (rw [hji19] at H;exact H) | (simp only [hji19] at H ⊢;exact H)
     by_cases c20 : 0 ≤ (ji19)
     ·rw [if_pos c20] at H;have c20b0 : decide (0 ≤ (ji19)) = true:=dT c20;clear c20
      by_cases c21 : (ji19) < 256
      ·rw [if_pos c21] at H;have c21b0 : decide ((ji19) < 256) = true:=dT c21;clear c21;obtain rfl:=oI H;have p22 : 0 ≤ ((ji19) : Int):=of_decide_eq_true (by first | (with_reducible assumption) | assumption);have q22 : (ji19) < (256 : Int):=of_decide_eq_true (by first | (with_reducible assumption) | assumption);have hx22:=bt_at (⟨#[0,1,2,2,3,3,3,3,4,4,4,4,4,4,4,4,5,5,5,5,5,5,5,5,5,5,5,5,5,5,5,5,6,6,6,6,6,6,6,6,6,6,6,6,6,6,6,6,6,6,6,6,6,6,6,6,6,6,6,6,6,6,6,6,7,7,7,7,7,7,7,7,7,7,7,7,7,7,7,7,7,7,7,7,7,7,7,7,7,7,7,7,7,7,7,7,7,7,7,7,7,7,7,7,7,7,7,7,7,7,7,7,7,7,7,7,7,7,7,7,7,7,7,7,7,7,7,7,8,8,8,8,8,8,8,8,8,8,8,8,8,8,8,8,8,8,8,8,8,8,8,8,8,8,8,8,8,8,8,8,8,8,8,8,8,8,8,8,8,8,8,8,8,8,8,8,8,8,8,8,8,8,8,8,8,8,8,8,8,8,8,8,8,8,8,8,8,8,8,8,8,8,8,8,8,8,8,8,8,8,8,8,8,8,8,8,8,8,8,8,8,8,8,8,8,8,8,8,8,8,8,8,8,8,8,8,8,8,8,8,8,8,8,8,8,8,8,8,8,8,8,8,8,8,8,8]⟩ : ByteArray) (ji19);replace p22:=eq_true p22;replace q22:=eq_true q22;go_wp2;go_ret;exact ⟨by first | rfl | (simp;done) | (simp only [← hji19] <;> (first | rfl | simp)) | (simp [*];done),by repeat (first | exact Drawn0.refl _ | apply Drawn0.step)⟩
      ·rw [if_neg c21] at H;exact absurd H (by simp)
     ·rw [if_neg c20] at H;exact absurd H (by simp)

def bits_LeadingZeros64.f (k : Nat) (a0 : Int) : Option (Int):=(bits_Len64.f k a0).bind fun t222 => (some (wrap64 (64 - t222)))
theorem bits_LeadingZeros64.mono : ∀ a0 k,LeO (bits_LeadingZeros64.f k a0) (bits_LeadingZeros64.f (k + 1) a0):=by
 intro a0 k;unfold bits_LeadingZeros64.f
 repeat' first
   | (with_reducible exact bits_Len64.mono _ _)
   | (with_reducible exact LeO.refl _)
   | (with_reducible exact LeO.none _)
   | (with_reducible refine LeO.ite ?_ ?_)
   | (with_reducible refine LeO.bind ?_ (fun _ => ?_))
   | exact bits_Len64.mono _ _
   | exact LeO.none _
   | refine LeO.ite ?_ ?_
   | refine LeO.bind ?_ (fun _ => ?_)
theorem bits_LeadingZeros64.calls (k : Nat) (a0 : Int) (r : Int) (w : World) (h : bits_LeadingZeros64.f k a0 = some r) :
  Calls Tryz.prog 111 #[.int .u64 a0] w fun e w' => e = .returned (.int .i64 r) ∧ Drawn0 w w':=by
 have H : ((bits_Len64.f k a0).bind fun t222 => (some (wrap64 (64 - t222)))) = some r:=h;clear h;obtain ⟨t222,A2,H⟩:=bnd H;(try dsimp only at H);obtain rfl:=oI H;go_enter Tryz.func111,Tryz.ntmps111;go_wp2_with (first | ((with_reducible refine gate_callee (f:=116) rfl ?_);refine goesL_ (some 4) rfl rfl Tryz.func116 (by kernel_rfl) rfl #[.int .u64 a0] rfl aA ?_;(with_reducible refine (bits_Len64.calls k a0 t222 _ A2.out).mono ?_);rintro e w' ⟨rfl,⟨nd,rfl⟩⟩;refine ⟨_,rfl,?_⟩))
 go_ret;exact ⟨by first | rfl | (simp;done) | (simp [*];done),by repeat (first | exact Drawn0.refl _ | apply Drawn0.step)⟩

mutual
def bits_Div64.j2 : Nat → Int → Int → Int → Int → Int → Int → Int → Int → Option (Int × Int)
 | 0,_,_,_,_,_,_,_,_ => none
 | k + 1,x2,x8,x9,x10,x11,x13,x14,x15 => if x9 = 0 then (none) else (bits_Div64.l1 k x2 x8 x9 x10 x14 x15 (IntKind.u64.wrap ((IntKind.u64.wrap ((IntKind.u64.wrap ((IntKind.u64.wrap (x11 * 4294967296)) + x13)) - (IntKind.u64.wrap (x15 * x2)))) - (IntKind.u64.wrap ((IntKind.u64.wrap (Int.tdiv (IntKind.u64.wrap ((IntKind.u64.wrap ((IntKind.u64.wrap (x11 * 4294967296)) + x13)) - (IntKind.u64.wrap (x15 * x2)))) x9)) * x9)))) (IntKind.u64.wrap ((IntKind.u64.wrap ((IntKind.u64.wrap (x11 * 4294967296)) + x13)) - (IntKind.u64.wrap (x15 * x2)))) (IntKind.u64.wrap (Int.tdiv (IntKind.u64.wrap ((IntKind.u64.wrap ((IntKind.u64.wrap (x11 * 4294967296)) + x13)) - (IntKind.u64.wrap (x15 * x2)))) x9)))
def bits_Div64.l1 : Nat → Int → Int → Int → Int → Int → Int → Int → Int → Int → Option (Int × Int)
 | 0,_,_,_,_,_,_,_,_,_ => none
 | k + 1,x2,x8,x9,x10,x14,x15,x16,x17,x18 => if x18 ≥ 4294967296 then (bits_Div64.j4 k x2 x8 x9 x10 x14 x15 x16 x17 x18 true) else (bits_Div64.j4 k x2 x8 x9 x10 x14 x15 x16 x17 x18 (decide ((IntKind.u64.wrap (x18 * x10)) > (IntKind.u64.wrap ((IntKind.u64.wrap (4294967296 * x16)) + x14)))))
def bits_Div64.j4 : Nat → Int → Int → Int → Int → Int → Int → Int → Int → Int → Bool → Option (Int × Int)
 | 0,_,_,_,_,_,_,_,_,_,_ => none
 | k + 1,x2,x8,x9,x10,x14,x15,x16,x17,x18,x113 => if x113 = true then (if (IntKind.u64.wrap (x16 + x9)) ≥ 4294967296 then (if 0 ≤ x8 then (some (IntKind.u64.wrap ((IntKind.u64.wrap (x15 * 4294967296)) + (IntKind.u64.wrap (x18 - 1))),shr .u64 (IntKind.u64.wrap ((IntKind.u64.wrap ((IntKind.u64.wrap (x17 * 4294967296)) + x14)) - (IntKind.u64.wrap ((IntKind.u64.wrap (x18 - 1)) * x2)))) x8)) else (none)) else (bits_Div64.l1 k x2 x8 x9 x10 x14 x15 (IntKind.u64.wrap (x16 + x9)) x17 (IntKind.u64.wrap (x18 - 1)))) else (if 0 ≤ x8 then (some (IntKind.u64.wrap ((IntKind.u64.wrap (x15 * 4294967296)) + x18),shr .u64 (IntKind.u64.wrap ((IntKind.u64.wrap ((IntKind.u64.wrap (x17 * 4294967296)) + x14)) - (IntKind.u64.wrap (x18 * x2)))) x8)) else (none))
def bits_Div64.l0 : Nat → Int → Int → Int → Int → Int → Int → Int → Int → Int → Option (Int × Int)
 | 0,_,_,_,_,_,_,_,_,_ => none
 | k + 1,x2,x8,x9,x10,x11,x13,x14,x15,x16 => if x15 ≥ 4294967296 then (bits_Div64.j1 k x2 x8 x9 x10 x11 x13 x14 x15 x16 true) else (bits_Div64.j1 k x2 x8 x9 x10 x11 x13 x14 x15 x16 (decide ((IntKind.u64.wrap (x15 * x10)) > (IntKind.u64.wrap ((IntKind.u64.wrap (4294967296 * x16)) + x13)))))
def bits_Div64.j1 : Nat → Int → Int → Int → Int → Int → Int → Int → Int → Int → Bool → Option (Int × Int)
 | 0,_,_,_,_,_,_,_,_,_,_ => none
 | k + 1,x2,x8,x9,x10,x11,x13,x14,x15,x16,x78 => if x78 = true then (if (IntKind.u64.wrap (x16 + x9)) ≥ 4294967296 then (bits_Div64.j2 k x2 x8 x9 x10 x11 x13 x14 (IntKind.u64.wrap (x15 - 1))) else (bits_Div64.l0 k x2 x8 x9 x10 x11 x13 x14 (IntKind.u64.wrap (x15 - 1)) (IntKind.u64.wrap (x16 + x9)))) else (bits_Div64.j2 k x2 x8 x9 x10 x11 x13 x14 x15)
end
def bits_Div64.f (k : Nat) (a0 : Int) (a1 : Int) (a2 : Int) : Option (Int × Int):=if a2 = 0 then (none) else (if a2 ≤ a0 then (none) else (if a0 = 0 then (some (IntKind.u64.wrap (Int.tdiv a1 a2),Int.tmod a1 a2)) else ((bits_LeadingZeros64.f k a2).bind fun t223 => (if 0 ≤ (IntKind.u64.wrap (t223)) then (if 0 ≤ (IntKind.u64.wrap (64 - (IntKind.u64.wrap (t223)))) then (if ((shl .u64 a2 (IntKind.u64.wrap (t223))) / 4294967296) = 0 then (none) else (bits_Div64.l0 k (shl .u64 a2 (IntKind.u64.wrap (t223))) (IntKind.u64.wrap (t223)) ((shl .u64 a2 (IntKind.u64.wrap (t223))) / 4294967296) (Go.bits .and .u64 (shl .u64 a2 (IntKind.u64.wrap (t223))) 4294967295) (Go.bits .or .u64 (shl .u64 a0 (IntKind.u64.wrap (t223))) (shr .u64 a1 (IntKind.u64.wrap (64 - (IntKind.u64.wrap (t223)))))) ((shl .u64 a1 (IntKind.u64.wrap (t223))) / 4294967296) (Go.bits .and .u64 (shl .u64 a1 (IntKind.u64.wrap (t223))) 4294967295) (IntKind.u64.wrap (Int.tdiv (Go.bits .or .u64 (shl .u64 a0 (IntKind.u64.wrap (t223))) (shr .u64 a1 (IntKind.u64.wrap (64 - (IntKind.u64.wrap (t223)))))) ((shl .u64 a2 (IntKind.u64.wrap (t223))) / 4294967296))) (IntKind.u64.wrap ((Go.bits .or .u64 (shl .u64 a0 (IntKind.u64.wrap (t223))) (shr .u64 a1 (IntKind.u64.wrap (64 - (IntKind.u64.wrap (t223)))))) - (IntKind.u64.wrap ((IntKind.u64.wrap (Int.tdiv (Go.bits .or .u64 (shl .u64 a0 (IntKind.u64.wrap (t223))) (shr .u64 a1 (IntKind.u64.wrap (64 - (IntKind.u64.wrap (t223)))))) ((shl .u64 a2 (IntKind.u64.wrap (t223))) / 4294967296))) * ((shl .u64 a2 (IntKind.u64.wrap (t223))) / 4294967296))))))) else (none)) else (none)))))
theorem bits_Div64.calls (k : Nat) (a0 : Int) (a1 : Int) (a2 : Int) (r1 : Int) (r2 : Int) (w : World) (h : bits_Div64.f k a0 a1 a2 = some (r1,r2)) :
  Calls Tryz.prog 98 #[.int .u64 a0,.int .u64 a1,.int .u64 a2] w fun e w' => e = .returned (.tuple #[.int .u64 r1,.int .u64 r2]) ∧ Drawn0 w w':=by
 have H : (if a2 = 0 then (none) else (if a2 ≤ a0 then (none) else (if a0 = 0 then (some (IntKind.u64.wrap (Int.tdiv a1 a2),Int.tmod a1 a2)) else ((bits_LeadingZeros64.f k a2).bind fun t223 => (if 0 ≤ (IntKind.u64.wrap (t223)) then (if 0 ≤ (IntKind.u64.wrap (64 - (IntKind.u64.wrap (t223)))) then (if ((shl .u64 a2 (IntKind.u64.wrap (t223))) / 4294967296) = 0 then (none) else (bits_Div64.l0 k (shl .u64 a2 (IntKind.u64.wrap (t223))) (IntKind.u64.wrap (t223)) ((shl .u64 a2 (IntKind.u64.wrap (t223))) / 4294967296) (Go.bits .and .u64 (shl .u64 a2 (IntKind.u64.wrap (t223))) 4294967295) (Go.bits .or .u64 (shl .u64 a0 (IntKind.u64.wrap (t223))) (shr .u64 a1 (IntKind.u64.wrap (64 - (IntKind.u64.wrap (t223)))))) ((shl .u64 a1 (IntKind.u64.wrap (t223))) / 4294967296) (Go.bits .and .u64 (shl .u64 a1 (IntKind.u64.wrap (t223))) 4294967295) (IntKind.u64.wrap (Int.tdiv (Go.bits .or .u64 (shl .u64 a0 (IntKind.u64.wrap (t223))) (shr .u64 a1 (IntKind.u64.wrap (64 - (IntKind.u64.wrap (t223)))))) ((shl .u64 a2 (IntKind.u64.wrap (t223))) / 4294967296))) (IntKind.u64.wrap ((Go.bits .or .u64 (shl .u64 a0 (IntKind.u64.wrap (t223))) (shr .u64 a1 (IntKind.u64.wrap (64 - (IntKind.u64.wrap (t223)))))) - (IntKind.u64.wrap ((IntKind.u64.wrap (Int.tdiv (Go.bits .or .u64 (shl .u64 a0 (IntKind.u64.wrap (t223))) (shr .u64 a1 (IntKind.u64.wrap (64 - (IntKind.u64.wrap (t223)))))) ((shl .u64 a2 (IntKind.u64.wrap (t223))) / 4294967296))) * ((shl .u64 a2 (IntKind.u64.wrap (t223))) / 4294967296))))))) else (none)) else (none)))))) = some (r1,r2):=h;clear h
 by_cases c4 : a2 = 0
 ·rw [if_pos c4] at H;exact absurd H (by simp)
 ·rw [if_neg c4] at H;have c4b0 : (a2 == 0) = false:=beq_eq_false_iff_ne.mpr c4;have c4b1 : (a2 != 0) = true:=bne_iff_ne.mpr c4
  by_cases c5 : a2 ≤ a0
  ·rw [if_pos c5] at H;exact absurd H (by simp)
  ·rw [if_neg c5] at H;have c5b0 : decide (a2 ≤ a0) = false:=dF c5;clear c5
   by_cases c6 : a0 = 0
   ·rw [if_pos c6] at H;have c6b0 : (a0 == 0) = true:=beq_iff_eq.mpr c6;have c6b1 : (a0 != 0) = false:=bne_eq_false_iff_eq.mpr c6;clear c6;simp only [Option.some.injEq,Prod.mk.injEq] at H;obtain ⟨rfl,rfl⟩:=H;go_enter Tryz.func98,Tryz.ntmps98;go_wp2
    repeat (go_quiet (fail);try go_wp2)
    go_ret2;exact ⟨by first | rfl | (simp;done) | (simp [*];done),by repeat (first | exact Drawn0.refl _ | apply Drawn0.step)⟩
   ·rw [if_neg c6] at H;have c6b0 : (a0 == 0) = false:=beq_eq_false_iff_ne.mpr c6;have c6b1 : (a0 != 0) = true:=bne_iff_ne.mpr c6;obtain ⟨t223,A7,H⟩:=bnd H;(try dsimp only at H);obtain ⟨ji8,hji8⟩ : ∃ j_ : Int,(IntKind.u64.wrap (t223)) = j_:=⟨_,rfl⟩;replace H : (if 0 ≤ (ji8) then (if 0 ≤ (IntKind.u64.wrap (64 - (ji8))) then (if ((shl .u64 a2 (ji8)) / 4294967296) = 0 then (none) else (bits_Div64.l0 k (shl .u64 a2 (ji8)) ji8 ((shl .u64 a2 (ji8)) / 4294967296) (Go.bits .and .u64 (shl .u64 a2 (ji8)) 4294967295) (Go.bits .or .u64 (shl .u64 a0 (ji8)) (shr .u64 a1 (IntKind.u64.wrap (64 - (ji8))))) ((shl .u64 a1 (ji8)) / 4294967296) (Go.bits .and .u64 (shl .u64 a1 (ji8)) 4294967295) (IntKind.u64.wrap (Int.tdiv (Go.bits .or .u64 (shl .u64 a0 (ji8)) (shr .u64 a1 (IntKind.u64.wrap (64 - (ji8))))) ((shl .u64 a2 (ji8)) / 4294967296))) (IntKind.u64.wrap ((Go.bits .or .u64 (shl .u64 a0 (ji8)) (shr .u64 a1 (IntKind.u64.wrap (64 - (ji8))))) - (IntKind.u64.wrap ((IntKind.u64.wrap (Int.tdiv (Go.bits .or .u64 (shl .u64 a0 (ji8)) (shr .u64 a1 (IntKind.u64.wrap (64 - (ji8))))) ((shl .u64 a2 (ji8)) / 4294967296))) * ((shl .u64 a2 (ji8)) / 4294967296))))))) else (none)) else (none)) = some (r1,r2):=by first | (rw [hji8] at H;exact H) | (simp only [hji8] at H ⊢;exact H)
    (try rw [hji8] at A7)
    by_cases c9 : 0 ≤ (ji8)
    ·rw [if_pos c9] at H;have c9b0:=eq_true c9;have c9b1 : decide (0 ≤ (ji8)) = true:=dT c9;clear c9;obtain ⟨ji10,hji10⟩ : ∃ j_ : Int,(shl .u64 a2 (ji8)) = j_:=⟨_,rfl⟩;replace H : (if 0 ≤ (IntKind.u64.wrap (64 - (ji8))) then (if ((ji10) / 4294967296) = 0 then (none) else (bits_Div64.l0 k ji10 ji8 ((ji10) / 4294967296) (Go.bits .and .u64 (ji10) 4294967295) (Go.bits .or .u64 (shl .u64 a0 (ji8)) (shr .u64 a1 (IntKind.u64.wrap (64 - (ji8))))) ((shl .u64 a1 (ji8)) / 4294967296) (Go.bits .and .u64 (shl .u64 a1 (ji8)) 4294967295) (IntKind.u64.wrap (Int.tdiv (Go.bits .or .u64 (shl .u64 a0 (ji8)) (shr .u64 a1 (IntKind.u64.wrap (64 - (ji8))))) ((ji10) / 4294967296))) (IntKind.u64.wrap ((Go.bits .or .u64 (shl .u64 a0 (ji8)) (shr .u64 a1 (IntKind.u64.wrap (64 - (ji8))))) - (IntKind.u64.wrap ((IntKind.u64.wrap (Int.tdiv (Go.bits .or .u64 (shl .u64 a0 (ji8)) (shr .u64 a1 (IntKind.u64.wrap (64 - (ji8))))) ((ji10) / 4294967296))) * ((ji10) / 4294967296))))))) else (none)) = some (r1,r2):=by first | (rw [hji10] at H;exact H) | (simp only [hji10] at H ⊢;exact H)
     (try rw [hji10] at A7)
     have hji10_ : (IntKind.u64.wrap (a2 * 2 ^ min (ji8).toNat 64)) = ji10:=hji10;have hji10z : (ji8) ≤ 64 → (IntKind.u64.wrap (a2 * 2 ^ (ji8).toNat)) = ji10:=shl_small hji10;have c11b0:=eq_true (of_decide_eq_true (by first | (with_reducible assumption) | assumption) : 0 ≤ (ji8));obtain ⟨ji12,hji12⟩ : ∃ j_ : Int,(shl .u64 a0 (ji8)) = j_:=⟨_,rfl⟩;replace H : (if 0 ≤ (IntKind.u64.wrap (64 - (ji8))) then (if ((ji10) / 4294967296) = 0 then (none) else (bits_Div64.l0 k ji10 ji8 ((ji10) / 4294967296) (Go.bits .and .u64 (ji10) 4294967295) (Go.bits .or .u64 (ji12) (shr .u64 a1 (IntKind.u64.wrap (64 - (ji8))))) ((shl .u64 a1 (ji8)) / 4294967296) (Go.bits .and .u64 (shl .u64 a1 (ji8)) 4294967295) (IntKind.u64.wrap (Int.tdiv (Go.bits .or .u64 (ji12) (shr .u64 a1 (IntKind.u64.wrap (64 - (ji8))))) ((ji10) / 4294967296))) (IntKind.u64.wrap ((Go.bits .or .u64 (ji12) (shr .u64 a1 (IntKind.u64.wrap (64 - (ji8))))) - (IntKind.u64.wrap ((IntKind.u64.wrap (Int.tdiv (Go.bits .or .u64 (ji12) (shr .u64 a1 (IntKind.u64.wrap (64 - (ji8))))) ((ji10) / 4294967296))) * ((ji10) / 4294967296))))))) else (none)) = some (r1,r2):=by first | (rw [hji12] at H;exact H) | (simp only [hji12] at H ⊢;exact H)
     (try rw [hji12] at A7)
     have hji12_ : (IntKind.u64.wrap (a0 * 2 ^ min (ji8).toNat 64)) = ji12:=hji12;have hji12z : (ji8) ≤ 64 → (IntKind.u64.wrap (a0 * 2 ^ (ji8).toNat)) = ji12:=shl_small hji12;obtain ⟨ji13,hji13⟩ : ∃ j_ : Int,(IntKind.u64.wrap (64 - (ji8))) = j_:=⟨_,rfl⟩;replace H : (if 0 ≤ (ji13) then (if ((ji10) / 4294967296) = 0 then (none) else (bits_Div64.l0 k ji10 ji8 ((ji10) / 4294967296) (Go.bits .and .u64 (ji10) 4294967295) (Go.bits .or .u64 (ji12) (shr .u64 a1 (ji13))) ((shl .u64 a1 (ji8)) / 4294967296) (Go.bits .and .u64 (shl .u64 a1 (ji8)) 4294967295) (IntKind.u64.wrap (Int.tdiv (Go.bits .or .u64 (ji12) (shr .u64 a1 (ji13))) ((ji10) / 4294967296))) (IntKind.u64.wrap ((Go.bits .or .u64 (ji12) (shr .u64 a1 (ji13))) - (IntKind.u64.wrap ((IntKind.u64.wrap (Int.tdiv (Go.bits .or .u64 (ji12) (shr .u64 a1 (ji13))) ((ji10) / 4294967296))) * ((ji10) / 4294967296))))))) else (none)) = some (r1,r2):=by first | (rw [hji13] at H;exact H) | (simp only [hji13] at H ⊢;exact H)
     (try rw [hji13] at A7)
     by_cases c14 : 0 ≤ (ji13)
     ·rw [if_pos c14] at H;have c14b0:=eq_true c14;have c14b1 : decide (0 ≤ (ji13)) = true:=dT c14;clear c14;obtain ⟨ji15,hji15⟩ : ∃ j_ : Int,(shr .u64 a1 (ji13)) = j_:=⟨_,rfl⟩;replace H : (if ((ji10) / 4294967296) = 0 then (none) else (bits_Div64.l0 k ji10 ji8 ((ji10) / 4294967296) (Go.bits .and .u64 (ji10) 4294967295) (Go.bits .or .u64 (ji12) (ji15)) ((shl .u64 a1 (ji8)) / 4294967296) (Go.bits .and .u64 (shl .u64 a1 (ji8)) 4294967295) (IntKind.u64.wrap (Int.tdiv (Go.bits .or .u64 (ji12) (ji15)) ((ji10) / 4294967296))) (IntKind.u64.wrap ((Go.bits .or .u64 (ji12) (ji15)) - (IntKind.u64.wrap ((IntKind.u64.wrap (Int.tdiv (Go.bits .or .u64 (ji12) (ji15)) ((ji10) / 4294967296))) * ((ji10) / 4294967296))))))) = some (r1,r2):=by first | (rw [hji15] at H;exact H) | (simp only [hji15] at H ⊢;exact H)
      (try rw [hji15] at A7)
      have hji15_ : (a1 / 2 ^ min (ji13).toNat 64) = ji15:=hji15;have hji15z : (ji13) ≤ 64 → (a1 / 2 ^ (ji13).toNat) = ji15:=shr_small hji15;have c16b0:=eq_true (of_decide_eq_true (by first | (with_reducible assumption) | assumption) : 0 ≤ (ji8));obtain ⟨ji17,hji17⟩ : ∃ j_ : Int,(shl .u64 a1 (ji8)) = j_:=⟨_,rfl⟩;replace H : (if ((ji10) / 4294967296) = 0 then (none) else (bits_Div64.l0 k ji10 ji8 ((ji10) / 4294967296) (Go.bits .and .u64 (ji10) 4294967295) (Go.bits .or .u64 (ji12) (ji15)) ((ji17) / 4294967296) (Go.bits .and .u64 (ji17) 4294967295) (IntKind.u64.wrap (Int.tdiv (Go.bits .or .u64 (ji12) (ji15)) ((ji10) / 4294967296))) (IntKind.u64.wrap ((Go.bits .or .u64 (ji12) (ji15)) - (IntKind.u64.wrap ((IntKind.u64.wrap (Int.tdiv (Go.bits .or .u64 (ji12) (ji15)) ((ji10) / 4294967296))) * ((ji10) / 4294967296))))))) = some (r1,r2):=by first | (rw [hji17] at H;exact H) | (simp only [hji17] at H ⊢;exact H)
      (try rw [hji17] at A7)
      have hji17_ : (IntKind.u64.wrap (a1 * 2 ^ min (ji8).toNat 64)) = ji17:=hji17;have hji17z : (ji8) ≤ 64 → (IntKind.u64.wrap (a1 * 2 ^ (ji8).toNat)) = ji17:=shl_small hji17
      by_cases c18 : ((ji10) / 4294967296) = 0
      ·rw [if_pos c18] at H;exact absurd H (by simp)
      ·rw [if_neg c18] at H;have c18b0 : (((ji10) / 4294967296) == 0) = false:=beq_eq_false_iff_ne.mpr c18;have c18b1 : (((ji10) / 4294967296) != 0) = true:=bne_iff_ne.mpr c18;have HC19:=Am H;clear H;go_enter Tryz.func98,Tryz.ntmps98
       go_upto_block 0 with (first | (go_at_call 111;(with_reducible refine (bits_LeadingZeros64.calls k a2 t223 _ A7.out).mono ?_);rintro e w' ⟨rfl,⟨nd,rfl⟩⟩;(try first | exact ⟨rfl,_,World.drewN_drewN _ _ _⟩ | exact ⟨rfl,_,Eq.trans (World.drewN_drewN _ _ _) (congrArg (World.drewN _) (Nat.add_assoc _ _ _))⟩)))
       repeat (go_quiet (first | (go_at_call 111;(with_reducible refine (bits_LeadingZeros64.calls k a2 t223 _ A7.out).mono ?_);rintro e w' ⟨rfl,⟨nd,rfl⟩⟩;(try first | exact ⟨rfl,_,World.drewN_drewN _ _ _⟩ | exact ⟨rfl,_,Eq.trans (World.drewN_drewN _ _ _) (congrArg (World.drewN _) (Nat.add_assoc _ _ _))⟩)));go_upto_block 0 with (first | (go_at_call 111;(with_reducible refine (bits_LeadingZeros64.calls k a2 t223 _ A7.out).mono ?_);rintro e w' ⟨rfl,⟨nd,rfl⟩⟩;(try first | exact ⟨rfl,_,World.drewN_drewN _ _ _⟩ | exact ⟨rfl,_,Eq.trans (World.drewN_drewN _ _ _) (congrArg (World.drewN _) (Nat.add_assoc _ _ _))⟩))))
       (try simp only [Act.put,List.setIfInBounds_toArray,List.set_cons_zero,List.set_cons_succ])
       go_cut [15] (fun v15 wc => ∃ (kq : Nat) (x15_18 : Int),v15 = .int .u64 x15_18 ∧ Aside0 (bits_Div64.j2 kq ji10 ji8 ((ji10) / 4294967296) (Go.bits .and .u64 (ji10) 4294967295) (Go.bits .or .u64 (ji12) (ji15)) ((ji17) / 4294967296) (Go.bits .and .u64 (ji17) 4294967295) x15_18 = some (r1,r2)) ∧ Aside0 (kq ≤ k) ∧ Drawn0 w wc)
       case first =>
        have H:=HC19.out;clear HC19;have H':=Am H;clear H;go_wp2
        repeat (go_quiet (fail);try go_wp2)
        go_loopg [15,16] k (fun kq v15 v16 w' => ∃ (x15_1 : Int) (x16_1 : Int),v15 = .int .u64 x15_1 ∧ v16 = .int .u64 x16_1 ∧ Aside0 (bits_Div64.l0 kq ji10 ji8 ((ji10) / 4294967296) (Go.bits .and .u64 (ji10) 4294967295) (Go.bits .or .u64 (ji12) (ji15)) ((ji17) / 4294967296) (Go.bits .and .u64 (ji17) 4294967295) x15_1 x16_1 = some (r1,r2)) ∧ Aside0 (kq ≤ k) ∧ Drawn0 w w')
        case atStart => exact ⟨(IntKind.u64.wrap (Int.tdiv (Go.bits .or .u64 (ji12) (ji15)) ((ji10) / 4294967296))),(IntKind.u64.wrap ((Go.bits .or .u64 (ji12) (ji15)) - (IntKind.u64.wrap ((IntKind.u64.wrap (Int.tdiv (Go.bits .or .u64 (ji12) (ji15)) ((ji10) / 4294967296))) * ((ji10) / 4294967296))))),(by first | rfl | (simp;done) | (simp only [← hji10,← hji12,← hji15] <;> (first | rfl | simp)) | (simp [*];done)),(by first | rfl | (simp;done) | (simp only [← hji10,← hji12,← hji15] <;> (first | rfl | simp)) | (simp [*];done)),H',⟨Nat.le_refl _⟩,by repeat (first | exact Drawn0.refl _ | apply Drawn0.step)⟩
        case round =>
         clear H'
         try clear c1
         try clear p2
         try clear c4
         try clear c4b0
         try clear c4b1
         try clear c5
         try clear c5b0
         try clear c6
         try clear c6b0
         try clear c6b1
         try clear c9
         try clear c9b0
         try clear c9b1
         try clear c11
         try clear c11b0
         try clear c14
         try clear c14b0
         try clear c14b1
         try clear c16
         try clear c16b0
         try clear c18
         try clear c18b0
         try clear c18b1
         obtain ⟨x15_1,x16_1,rfl,rfl,HA,HK1,⟨m1,rfl⟩⟩:=hrel
         cases gk with
         | zero => exact absurd HA.out (by simp [bits_Div64.l0])
         | succ k1 =>
          have H:=HA.out;clear HA;simp only [bits_Div64.l0] at H;have HC20:=Am H;clear H;go_upto_region 17 with (fail)
          repeat (go_quiet (fail);go_upto_region 17 with (fail))
          go_cut [78] (fun v78 wc => ∃ (kq : Nat) (x78_19 : Bool),v78 = .bool x78_19 ∧ Aside0 (bits_Div64.j1 kq ji10 ji8 ((ji10) / 4294967296) (Go.bits .and .u64 (ji10) 4294967295) (Go.bits .or .u64 (ji12) (ji15)) ((ji17) / 4294967296) (Go.bits .and .u64 (ji17) 4294967295) x15_1 x16_1 x78_19 = some (r1,r2)) ∧ Aside0 (kq ≤ k1) ∧ Drawn0 w wc)
          case first =>
           have H:=HC20.out;clear HC20
           by_cases c21 : x15_1 ≥ 4294967296
           ·rw [if_pos c21] at H;have c21b0 : decide (4294967296 ≤ x15_1) = true:=dT c21;clear c21
            (first | rw [c21b0] | (simp only [i64_w,i32_w];rw [c21b0]) | skip)
            have H':=Am H;clear H;go_wp2
            repeat (go_quiet (fail);try go_wp2)
            go_meet
            case rel => exact ⟨_,(true),(by first | rfl | (simp;done) | (simp [*];done)),H',⟨by have:=HK1.out;first | omega | exact Nat.le_refl _⟩,by repeat (first | exact Drawn0.refl _ | apply Drawn0.step)⟩
           ·rw [if_neg c21] at H;have c21b0 : decide (4294967296 ≤ x15_1) = false:=dF c21;clear c21
            (first | rw [c21b0] | (simp only [i64_w,i32_w];rw [c21b0]) | skip)
            have H':=Am H;clear H;go_wp2
            repeat (go_quiet (fail);try go_wp2)
            go_meet
            case rel => exact ⟨_,(decide ((IntKind.u64.wrap (x15_1 * (Go.bits .and .u64 (ji10) 4294967295))) > (IntKind.u64.wrap ((IntKind.u64.wrap (4294967296 * x16_1)) + ((ji17) / 4294967296))))),(by first | rfl | (simp;done) | (simp only [← hji10,← hji17] <;> (first | rfl | simp)) | (simp [*];done)),H',⟨by have:=HK1.out;first | omega | exact Nat.le_refl _⟩,by repeat (first | exact Drawn0.refl _ | apply Drawn0.step)⟩
          case rest =>
           clear HC20
           try clear c1
           try clear c2
           try clear p2
           try clear c4
           try clear c4b0
           try clear c4b1
           try clear c5
           try clear c5b0
           try clear c6
           try clear c6b0
           try clear c6b1
           try clear c9
           try clear c9b0
           try clear c9b1
           try clear c11
           try clear c11b0
           try clear c14
           try clear c14b0
           try clear c14b1
           try clear c16
           try clear c16b0
           try clear c18
           try clear c18b0
           try clear c18b1
           try clear c21
           try clear c21b0
           try clear p2
           obtain ⟨kq,x78_19,rfl,HA,HJ19,⟨mc19,rfl⟩⟩:=hcut
           cases kq with
           | zero => exact absurd HA.out (by simp [bits_Div64.j1])
           | succ kj19 =>
            have H:=HA.out;clear HA;simp only [bits_Div64.j1] at H
            by_cases c22 : x78_19 = true
            ·subst c22;have H1 : (if (IntKind.u64.wrap (x16_1 + ((ji10) / 4294967296))) ≥ 4294967296 then (bits_Div64.j2 kj19 ji10 ji8 ((ji10) / 4294967296) (Go.bits .and .u64 (ji10) 4294967295) (Go.bits .or .u64 (ji12) (ji15)) ((ji17) / 4294967296) (Go.bits .and .u64 (ji17) 4294967295) (IntKind.u64.wrap (x15_1 - 1))) else (bits_Div64.l0 kj19 ji10 ji8 ((ji10) / 4294967296) (Go.bits .and .u64 (ji10) 4294967295) (Go.bits .or .u64 (ji12) (ji15)) ((ji17) / 4294967296) (Go.bits .and .u64 (ji17) 4294967295) (IntKind.u64.wrap (x15_1 - 1)) (IntKind.u64.wrap (x16_1 + ((ji10) / 4294967296))))) = some (r1,r2):=by rw [if_pos rfl] at H;exact H
             clear H;have H:=H1;clear H1
             by_cases c23 : (IntKind.u64.wrap (x16_1 + ((ji10) / 4294967296))) ≥ 4294967296
             ·rw [if_pos c23] at H;have c23b0 : decide (4294967296 ≤ (IntKind.u64.wrap (x16_1 + ((ji10) / 4294967296)))) = true:=dT c23;clear c23;have H':=Am H;clear H;go_wp2
              repeat (go_quiet (fail);try go_wp2)
              go_meet
              case rel => exact ⟨_,(IntKind.u64.wrap (x15_1 - 1)),(by first | rfl | (simp;done) | (simp [*];done)),H',⟨by have:=HK1.out;have:=HJ19.out;first | omega | exact Nat.le_refl _⟩,by repeat (first | exact Drawn0.refl _ | apply Drawn0.step)⟩
             ·rw [if_neg c23] at H;have c23b0 : decide (4294967296 ≤ (IntKind.u64.wrap (x16_1 + ((ji10) / 4294967296)))) = false:=dF c23;clear c23;have H':=Am H;clear H;go_wp2
              repeat (go_quiet (fail);try go_wp2)
              go_roundg kj19
              case measure => have:=HK1.out;have:=HJ19.out;omega
              case rel => exact ⟨(IntKind.u64.wrap (x15_1 - 1)),(IntKind.u64.wrap (x16_1 + ((ji10) / 4294967296))),(by first | rfl | (simp;done) | (simp [*];done)),(by first | rfl | (simp;done) | (simp only [← hji10] <;> (first | rfl | simp)) | (simp [*];done)),H',⟨by have:=HK1.out;have:=HJ19.out;omega⟩,by repeat (first | exact Drawn0.refl _ | apply Drawn0.step)⟩
            ·replace c22:=Bool.eq_false_iff.mpr c22;subst c22;have H1 : (bits_Div64.j2 kj19 ji10 ji8 ((ji10) / 4294967296) (Go.bits .and .u64 (ji10) 4294967295) (Go.bits .or .u64 (ji12) (ji15)) ((ji17) / 4294967296) (Go.bits .and .u64 (ji17) 4294967295) x15_1) = some (r1,r2):=by rw [if_neg (show ¬ (false = true) by decide)] at H;exact H
             clear H;have H:=H1;clear H1;have H':=Am H;clear H;go_wp2
             repeat (go_quiet (fail);try go_wp2)
             go_meet
             case rel => exact ⟨_,(x15_1),(by first | rfl | (simp;done) | (simp [*];done)),H',⟨by have:=HK1.out;have:=HJ19.out;first | omega | exact Nat.le_refl _⟩,by repeat (first | exact Drawn0.refl _ | apply Drawn0.step)⟩
       case rest =>
        clear HC19
        try clear c1
        try clear c2
        try clear p2
        try clear c4
        try clear c4b0
        try clear c4b1
        try clear c5
        try clear c5b0
        try clear c6
        try clear c6b0
        try clear c6b1
        try clear c9
        try clear c9b0
        try clear c9b1
        try clear c11
        try clear c11b0
        try clear c14
        try clear c14b0
        try clear c14b1
        try clear c16
        try clear c16b0
        try clear c18
        try clear c18b0
        try clear c18b1
        try clear c19
        try clear c21
        try clear c21b0
        try clear c22
        try clear c23
        try clear c23b0
        try clear p2
        obtain ⟨kq,x15_18,rfl,HA,HJ18,⟨mc18,rfl⟩⟩:=hcut
        cases kq with
        | zero => exact absurd HA.out (by simp [bits_Div64.j2])
        | succ kj18 =>
         have H:=HA.out;clear HA;simp only [bits_Div64.j2] at H
         by_cases c24 : ((ji10) / 4294967296) = 0
         ·rw [if_pos c24] at H;exact absurd H (by simp)
         ·rw [if_neg c24] at H;have c24b0 : (((ji10) / 4294967296) == 0) = false:=beq_eq_false_iff_ne.mpr c24;have c24b1 : (((ji10) / 4294967296) != 0) = true:=bne_iff_ne.mpr c24;have H':=Am H;clear H;go_wp2
          repeat (go_quiet (fail);try go_wp2)
          go_loopg [16,18] kj18 (fun kq v16 v18 w' => ∃ (x16_2 : Int) (x18_2 : Int),v16 = .int .u64 x16_2 ∧ v18 = .int .u64 x18_2 ∧ Aside0 (bits_Div64.l1 kq ji10 ji8 ((ji10) / 4294967296) (Go.bits .and .u64 (ji10) 4294967295) (Go.bits .and .u64 (ji17) 4294967295) x15_18 x16_2 (IntKind.u64.wrap ((IntKind.u64.wrap ((IntKind.u64.wrap ((Go.bits .or .u64 (ji12) (ji15)) * 4294967296)) + ((ji17) / 4294967296))) - (IntKind.u64.wrap (x15_18 * ji10)))) x18_2 = some (r1,r2)) ∧ Aside0 (kq ≤ kj18) ∧ Drawn0 w w')
          case atStart => exact ⟨(IntKind.u64.wrap ((IntKind.u64.wrap ((IntKind.u64.wrap ((IntKind.u64.wrap ((Go.bits .or .u64 (ji12) (ji15)) * 4294967296)) + ((ji17) / 4294967296))) - (IntKind.u64.wrap (x15_18 * ji10)))) - (IntKind.u64.wrap ((IntKind.u64.wrap (Int.tdiv (IntKind.u64.wrap ((IntKind.u64.wrap ((IntKind.u64.wrap ((Go.bits .or .u64 (ji12) (ji15)) * 4294967296)) + ((ji17) / 4294967296))) - (IntKind.u64.wrap (x15_18 * ji10)))) ((ji10) / 4294967296))) * ((ji10) / 4294967296))))),(IntKind.u64.wrap (Int.tdiv (IntKind.u64.wrap ((IntKind.u64.wrap ((IntKind.u64.wrap ((Go.bits .or .u64 (ji12) (ji15)) * 4294967296)) + ((ji17) / 4294967296))) - (IntKind.u64.wrap (x15_18 * ji10)))) ((ji10) / 4294967296))),(by first | rfl | (simp;done) | (simp only [← hji10,← hji12,← hji15,← hji17] <;> (first | rfl | simp)) | (simp [*];done)),(by first | rfl | (simp;done) | (simp only [← hji10,← hji12,← hji15,← hji17] <;> (first | rfl | simp)) | (simp [*];done)),H',⟨Nat.le_refl _⟩,by repeat (first | exact Drawn0.refl _ | apply Drawn0.step)⟩
          case round =>
           clear H'
           try clear c1
           try clear c2
           try clear p2
           try clear c4
           try clear c4b0
           try clear c4b1
           try clear c5
           try clear c5b0
           try clear c6
           try clear c6b0
           try clear c6b1
           try clear c9
           try clear c9b0
           try clear c9b1
           try clear c11
           try clear c11b0
           try clear c14
           try clear c14b0
           try clear c14b1
           try clear c16
           try clear c16b0
           try clear c18
           try clear c18b0
           try clear c18b1
           try clear c19
           try clear c21
           try clear c21b0
           try clear c22
           try clear c23
           try clear c23b0
           try clear c24
           try clear c24b0
           try clear c24b1
           try clear p2
           obtain ⟨x16_2,x18_2,rfl,rfl,HA,HK2,⟨m2,rfl⟩⟩:=hrel
           cases gk with
           | zero => exact absurd HA.out (by simp [bits_Div64.l1])
           | succ k2 =>
            have H:=HA.out;clear HA;simp only [bits_Div64.l1] at H;have HC25:=Am H;clear H;go_upto_region 24 with (fail)
            repeat (go_quiet (fail);go_upto_region 24 with (fail))
            go_cut [113] (fun v113 wc => ∃ (kq : Nat) (x113_24 : Bool),v113 = .bool x113_24 ∧ Aside0 (bits_Div64.j4 kq ji10 ji8 ((ji10) / 4294967296) (Go.bits .and .u64 (ji10) 4294967295) (Go.bits .and .u64 (ji17) 4294967295) x15_18 x16_2 (IntKind.u64.wrap ((IntKind.u64.wrap ((IntKind.u64.wrap ((Go.bits .or .u64 (ji12) (ji15)) * 4294967296)) + ((ji17) / 4294967296))) - (IntKind.u64.wrap (x15_18 * ji10)))) x18_2 x113_24 = some (r1,r2)) ∧ Aside0 (kq ≤ k2) ∧ Drawn0 w wc)
            case first =>
             have H:=HC25.out;clear HC25
             by_cases c26 : x18_2 ≥ 4294967296
             ·rw [if_pos c26] at H;have c26b0 : decide (4294967296 ≤ x18_2) = true:=dT c26;clear c26
              (first | rw [c26b0] | (simp only [i64_w,i32_w];rw [c26b0]) | skip)
              have H':=Am H;clear H;go_wp2
              repeat (go_quiet (fail);try go_wp2)
              go_meet
              case rel => exact ⟨_,(true),(by first | rfl | (simp;done) | (simp [*];done)),H',⟨by have:=HJ18.out;have:=HK2.out;first | omega | exact Nat.le_refl _⟩,by repeat (first | exact Drawn0.refl _ | apply Drawn0.step)⟩
             ·rw [if_neg c26] at H;have c26b0 : decide (4294967296 ≤ x18_2) = false:=dF c26;clear c26
              (first | rw [c26b0] | (simp only [i64_w,i32_w];rw [c26b0]) | skip)
              have H':=Am H;clear H;go_wp2
              repeat (go_quiet (fail);try go_wp2)
              go_meet
              case rel => exact ⟨_,(decide ((IntKind.u64.wrap (x18_2 * (Go.bits .and .u64 (ji10) 4294967295))) > (IntKind.u64.wrap ((IntKind.u64.wrap (4294967296 * x16_2)) + (Go.bits .and .u64 (ji17) 4294967295))))),(by first | rfl | (simp;done) | (simp only [← hji10,← hji17] <;> (first | rfl | simp)) | (simp [*];done)),H',⟨by have:=HJ18.out;have:=HK2.out;first | omega | exact Nat.le_refl _⟩,by repeat (first | exact Drawn0.refl _ | apply Drawn0.step)⟩
            case rest =>
             clear HC25
             try clear c1
             try clear c2
             try clear p2
             try clear c4
             try clear c4b0
             try clear c4b1
             try clear c5
             try clear c5b0
             try clear c6
             try clear c6b0
             try clear c6b1
             try clear c9
             try clear c9b0
             try clear c9b1
             try clear c11
             try clear c11b0
             try clear c14
             try clear c14b0
             try clear c14b1
             try clear c16
             try clear c16b0
             try clear c18
             try clear c18b0
             try clear c18b1
             try clear c19
             try clear c21
             try clear c21b0
             try clear c22
             try clear c23
             try clear c23b0
             try clear c24
             try clear c24b0
             try clear c24b1
             try clear c26
             try clear c26b0
             try clear p2
             obtain ⟨kq,x113_24,rfl,HA,HJ24,⟨mc24,rfl⟩⟩:=hcut
             cases kq with
             | zero => exact absurd HA.out (by simp [bits_Div64.j4])
             | succ kj24 =>
              have H:=HA.out;clear HA;simp only [bits_Div64.j4] at H
              by_cases c27 : x113_24 = true
              ·subst c27;have H1 : (if (IntKind.u64.wrap (x16_2 + ((ji10) / 4294967296))) ≥ 4294967296 then (if 0 ≤ ji8 then (some (IntKind.u64.wrap ((IntKind.u64.wrap (x15_18 * 4294967296)) + (IntKind.u64.wrap (x18_2 - 1))),shr .u64 (IntKind.u64.wrap ((IntKind.u64.wrap ((IntKind.u64.wrap ((IntKind.u64.wrap ((IntKind.u64.wrap ((IntKind.u64.wrap ((Go.bits .or .u64 (ji12) (ji15)) * 4294967296)) + ((ji17) / 4294967296))) - (IntKind.u64.wrap (x15_18 * ji10)))) * 4294967296)) + (Go.bits .and .u64 (ji17) 4294967295))) - (IntKind.u64.wrap ((IntKind.u64.wrap (x18_2 - 1)) * ji10)))) ji8)) else (none)) else (bits_Div64.l1 kj24 ji10 ji8 ((ji10) / 4294967296) (Go.bits .and .u64 (ji10) 4294967295) (Go.bits .and .u64 (ji17) 4294967295) x15_18 (IntKind.u64.wrap (x16_2 + ((ji10) / 4294967296))) (IntKind.u64.wrap ((IntKind.u64.wrap ((IntKind.u64.wrap ((Go.bits .or .u64 (ji12) (ji15)) * 4294967296)) + ((ji17) / 4294967296))) - (IntKind.u64.wrap (x15_18 * ji10)))) (IntKind.u64.wrap (x18_2 - 1)))) = some (r1,r2):=by rw [if_pos rfl] at H;exact H
               clear H;have H:=H1;clear H1
               by_cases c28 : (IntKind.u64.wrap (x16_2 + ((ji10) / 4294967296))) ≥ 4294967296
               ·rw [if_pos c28] at H;have c28b0 : decide (4294967296 ≤ (IntKind.u64.wrap (x16_2 + ((ji10) / 4294967296)))) = true:=dT c28;clear c28
                by_cases c29 : 0 ≤ ji8
                ·rw [if_pos c29] at H;have c29b0:=eq_true c29;have c29b1 : decide (0 ≤ ji8) = true:=dT c29;clear c29;obtain ⟨ji30,hji30⟩ : ∃ j_ : Int,(shr .u64 (IntKind.u64.wrap ((IntKind.u64.wrap ((IntKind.u64.wrap ((IntKind.u64.wrap ((IntKind.u64.wrap ((IntKind.u64.wrap ((Go.bits .or .u64 (ji12) (ji15)) * 4294967296)) + ((ji17) / 4294967296))) - (IntKind.u64.wrap (x15_18 * ji10)))) * 4294967296)) + (Go.bits .and .u64 (ji17) 4294967295))) - (IntKind.u64.wrap ((IntKind.u64.wrap (x18_2 - 1)) * ji10)))) ji8) = j_:=⟨_,rfl⟩;replace H : (some (IntKind.u64.wrap ((IntKind.u64.wrap (x15_18 * 4294967296)) + (IntKind.u64.wrap (x18_2 - 1))),ji30)) = some (r1,r2):=by first | (rw [hji30] at H;exact H) | (simp only [hji30] at H ⊢;exact H)
                 have hji30_ : ((IntKind.u64.wrap ((IntKind.u64.wrap ((IntKind.u64.wrap ((IntKind.u64.wrap ((IntKind.u64.wrap ((IntKind.u64.wrap ((Go.bits .or .u64 (ji12) (ji15)) * 4294967296)) + ((ji17) / 4294967296))) - (IntKind.u64.wrap (x15_18 * ji10)))) * 4294967296)) + (Go.bits .and .u64 (ji17) 4294967295))) - (IntKind.u64.wrap ((IntKind.u64.wrap (x18_2 - 1)) * ji10)))) / 2 ^ min ji8.toNat 64) = ji30:=hji30;have hji30z : ji8 ≤ 64 → ((IntKind.u64.wrap ((IntKind.u64.wrap ((IntKind.u64.wrap ((IntKind.u64.wrap ((IntKind.u64.wrap ((IntKind.u64.wrap ((Go.bits .or .u64 (ji12) (ji15)) * 4294967296)) + ((ji17) / 4294967296))) - (IntKind.u64.wrap (x15_18 * ji10)))) * 4294967296)) + (Go.bits .and .u64 (ji17) 4294967295))) - (IntKind.u64.wrap ((IntKind.u64.wrap (x18_2 - 1)) * ji10)))) / 2 ^ ji8.toNat) = ji30:=shr_small hji30;simp only [Option.some.injEq,Prod.mk.injEq] at H;obtain ⟨rfl,rfl⟩:=H;go_wp2
                 repeat (go_quiet (fail);try go_wp2)
                 go_ret2;exact ⟨by first | rfl | (simp;done) | (simp only [← hji8,← hji10,← hji12,← hji13,← hji15,← hji17,← hji30] <;> (first | rfl | simp)) | (simp [*];done),by repeat (first | exact Drawn0.refl _ | apply Drawn0.step)⟩
                ·rw [if_neg c29] at H;exact absurd H (by simp)
               ·rw [if_neg c28] at H;have c28b0 : decide (4294967296 ≤ (IntKind.u64.wrap (x16_2 + ((ji10) / 4294967296)))) = false:=dF c28;clear c28;have H':=Am H;clear H;go_wp2
                repeat (go_quiet (fail);try go_wp2)
                go_roundg kj24
                case measure => have:=HJ18.out;have:=HK2.out;have:=HJ24.out;omega
                case rel => exact ⟨(IntKind.u64.wrap (x16_2 + ((ji10) / 4294967296))),(IntKind.u64.wrap (x18_2 - 1)),(by first | rfl | (simp;done) | (simp only [← hji10] <;> (first | rfl | simp)) | (simp [*];done)),(by first | rfl | (simp;done) | (simp [*];done)),H',⟨by have:=HJ18.out;have:=HK2.out;have:=HJ24.out;omega⟩,by repeat (first | exact Drawn0.refl _ | apply Drawn0.step)⟩
              ·replace c27:=Bool.eq_false_iff.mpr c27;subst c27;have H1 : (if 0 ≤ ji8 then (some (IntKind.u64.wrap ((IntKind.u64.wrap (x15_18 * 4294967296)) + x18_2),shr .u64 (IntKind.u64.wrap ((IntKind.u64.wrap ((IntKind.u64.wrap ((IntKind.u64.wrap ((IntKind.u64.wrap ((IntKind.u64.wrap ((Go.bits .or .u64 (ji12) (ji15)) * 4294967296)) + ((ji17) / 4294967296))) - (IntKind.u64.wrap (x15_18 * ji10)))) * 4294967296)) + (Go.bits .and .u64 (ji17) 4294967295))) - (IntKind.u64.wrap (x18_2 * ji10)))) ji8)) else (none)) = some (r1,r2):=by rw [if_neg (show ¬ (false = true) by decide)] at H;exact H
               clear H;have H:=H1;clear H1
               by_cases c31 : 0 ≤ ji8
               ·rw [if_pos c31] at H;have c31b0:=eq_true c31;have c31b1 : decide (0 ≤ ji8) = true:=dT c31;clear c31;obtain ⟨ji32,hji32⟩ : ∃ j_ : Int,(shr .u64 (IntKind.u64.wrap ((IntKind.u64.wrap ((IntKind.u64.wrap ((IntKind.u64.wrap ((IntKind.u64.wrap ((IntKind.u64.wrap ((Go.bits .or .u64 (ji12) (ji15)) * 4294967296)) + ((ji17) / 4294967296))) - (IntKind.u64.wrap (x15_18 * ji10)))) * 4294967296)) + (Go.bits .and .u64 (ji17) 4294967295))) - (IntKind.u64.wrap (x18_2 * ji10)))) ji8) = j_:=⟨_,rfl⟩;replace H : (some (IntKind.u64.wrap ((IntKind.u64.wrap (x15_18 * 4294967296)) + x18_2),ji32)) = some (r1,r2):=by first | (rw [hji32] at H;exact H) | (simp only [hji32] at H ⊢;exact H)
                have hji32_ : ((IntKind.u64.wrap ((IntKind.u64.wrap ((IntKind.u64.wrap ((IntKind.u64.wrap ((IntKind.u64.wrap ((IntKind.u64.wrap ((Go.bits .or .u64 (ji12) (ji15)) * 4294967296)) + ((ji17) / 4294967296))) - (IntKind.u64.wrap (x15_18 * ji10)))) * 4294967296)) + (Go.bits .and .u64 (ji17) 4294967295))) - (IntKind.u64.wrap (x18_2 * ji10)))) / 2 ^ min ji8.toNat 64) = ji32:=hji32;have hji32z : ji8 ≤ 64 → ((IntKind.u64.wrap ((IntKind.u64.wrap ((IntKind.u64.wrap ((IntKind.u64.wrap ((IntKind.u64.wrap ((IntKind.u64.wrap ((Go.bits .or .u64 (ji12) (ji15)) * 4294967296)) + ((ji17) / 4294967296))) - (IntKind.u64.wrap (x15_18 * ji10)))) * 4294967296)) + (Go.bits .and .u64 (ji17) 4294967295))) - (IntKind.u64.wrap (x18_2 * ji10)))) / 2 ^ ji8.toNat) = ji32:=shr_small hji32;simp only [Option.some.injEq,Prod.mk.injEq] at H;obtain ⟨rfl,rfl⟩:=H;go_wp2
                repeat (go_quiet (fail);try go_wp2)
                go_ret2;exact ⟨by first | rfl | (simp;done) | (simp only [← hji8,← hji10,← hji12,← hji13,← hji15,← hji17,← hji32] <;> (first | rfl | simp)) | (simp [*];done),by repeat (first | exact Drawn0.refl _ | apply Drawn0.step)⟩
               ·rw [if_neg c31] at H;exact absurd H (by simp)
     ·rw [if_neg c14] at H;exact absurd H (by simp)
    ·rw [if_neg c9] at H;exact absurd H (by simp)

def wide_Div.f (k : Nat) (a0_0 : Int) (a0_1 : Int) (a1 : Int) : Option (Int × Int × Int × Bool):=if a1 = 0 then (some (0,0,0,false)) else ((bits_Div64.f k (Int.tmod a0_0 a1) a0_1 a1).bind fun bt226 => (some (IntKind.u64.wrap (Int.tdiv a0_0 a1),bt226.1,bt226.2,true)))
theorem wide_Div.calls (k : Nat) (a0_0 : Int) (a0_1 : Int) (a1 : Int) (r1 : Int) (r2 : Int) (r3 : Int) (r4 : Bool) (w : World) (h : wide_Div.f k a0_0 a0_1 a1 = some (r1,r2,r3,r4)) :
  Calls Tryz.prog 78 #[.agg #[.int .u64 a0_0,.int .u64 a0_1],.int .u64 a1] w fun e w' => e = .returned (.tuple #[.agg #[.int .u64 r1,.int .u64 r2],.int .u64 r3,.bool r4]) ∧ Below w.heap.size w w':=by
 have hu66:=Tryz.underlying66;have HB:=Am (Below.refl w.heap.size w);have H : (if a1 = 0 then (some (0,0,0,false)) else ((bits_Div64.f k (Int.tmod a0_0 a1) a0_1 a1).bind fun bt226 => (some (IntKind.u64.wrap (Int.tdiv a0_0 a1),bt226.1,bt226.2,true)))) = some (r1,r2,r3,r4):=h;clear h
 by_cases c3 : a1 = 0
 ·rw [if_pos c3] at H;have c3b0 : (a1 == 0) = true:=beq_iff_eq.mpr c3;have c3b1 : (a1 != 0) = false:=bne_eq_false_iff_eq.mpr c3;clear c3;simp only [Option.some.injEq,Prod.mk.injEq] at H;obtain ⟨rfl,rfl,rfl,rfl⟩:=H;go_enter Tryz.func78,Tryz.ntmps78;go_wp2_with (first | ((with_reducible refine gate_dst (N:=2) rfl ?_);refine bxA 2 #[.int .u64 a0_0,.int .u64 a0_1] 66 ?_;intro gb224 hg w4 hbox hb;have BK224:=Am (hbox);have GW224:=gW_ hg;have GE224:=gW_ hg;replace HB:=hb_ hb;clear hb hbox hg) | ((with_reducible refine gate_dst (N:=4) rfl ?_);refine bxA 4 #[.int .u64 0,.int .u64 0] 66 ?_;intro gb225 hg w5 hbox hb;have BK225:=Am (hbox);have GW225:=gW_ hg;have GE225:=gW_ hg;have NB224_225:=nA_ (g:=gb224) hg;have NB225_224:=nB_ (g:=gb224) hg;replace BK224:=kb_ (g:=gb224) hb;replace HB:=hb_ hb;clear hb hbox hg;have hnb6:=NB225_224.out;have hnc6:=NB224_225.out;obtain ⟨hcz7_0,hcz7_1,hfz7_0,hfz7_1⟩:=k2 BK225.out))
  repeat (go_quiet (first | ((with_reducible refine gate_dst (N:=2) rfl ?_);refine bxA 2 #[.int .u64 a0_0,.int .u64 a0_1] 66 ?_;intro gb224 hg w4 hbox hb;have BK224:=Am (hbox);have GW224:=gW_ hg;have GE224:=gW_ hg;replace HB:=hb_ hb;clear hb hbox hg) | ((with_reducible refine gate_dst (N:=4) rfl ?_);refine bxA 4 #[.int .u64 0,.int .u64 0] 66 ?_;intro gb225 hg w5 hbox hb;have BK225:=Am (hbox);have GW225:=gW_ hg;have GE225:=gW_ hg;have NB224_225:=nA_ (g:=gb224) hg;have NB225_224:=nB_ (g:=gb224) hg;replace BK224:=kb_ (g:=gb224) hb;replace HB:=hb_ hb;clear hb hbox hg;have hnb6:=NB225_224.out;have hnc6:=NB224_225.out;obtain ⟨hcz7_0,hcz7_1,hfz7_0,hfz7_1⟩:=k2 BK225.out));try go_wp2_with (first | ((with_reducible refine gate_dst (N:=2) rfl ?_);refine bxA 2 #[.int .u64 a0_0,.int .u64 a0_1] 66 ?_;intro gb224 hg w4 hbox hb;have BK224:=Am (hbox);have GW224:=gW_ hg;have GE224:=gW_ hg;replace HB:=hb_ hb;clear hb hbox hg) | ((with_reducible refine gate_dst (N:=4) rfl ?_);refine bxA 4 #[.int .u64 0,.int .u64 0] 66 ?_;intro gb225 hg w5 hbox hb;have BK225:=Am (hbox);have GW225:=gW_ hg;have GE225:=gW_ hg;have NB224_225:=nA_ (g:=gb224) hg;have NB225_224:=nB_ (g:=gb224) hg;replace BK224:=kb_ (g:=gb224) hb;replace HB:=hb_ hb;clear hb hbox hg;have hnb6:=NB225_224.out;have hnc6:=NB224_225.out;obtain ⟨hcz7_0,hcz7_1,hfz7_0,hfz7_1⟩:=k2 BK225.out)))
  refine bodyPost_ret (results_ctt rfl _ _ gb225 66 #[.int .u64 0,.int .u64 0] (0,0) _ rfl (by (with_reducible repeat (first | refine b1 ?_ _ | refine b2 ?_ | refine b3 ?_ _));refine blk_put (cs:=#[.int .u64 0,.int .u64 0]) ?_ 1 _ rfl;(with_reducible repeat (first | refine b1 ?_ _ | refine b2 ?_ | refine b3 ?_ _));refine blk_put (cs:=#[.int .u64 0,.int .u64 0]) ?_ 0 _ rfl;exact kA) Tryz.underlying66 rfl (by kernel_rfl)) rfl ?_;exact eA
 ·rw [if_neg c3] at H;have c3b0 : (a1 == 0) = false:=beq_eq_false_iff_ne.mpr c3;have c3b1 : (a1 != 0) = true:=bne_iff_ne.mpr c3;obtain ⟨⟨t226,t227⟩,A8,H⟩:=bnd H;(try dsimp only at H);simp only [Option.some.injEq,Prod.mk.injEq] at H;obtain ⟨rfl,rfl,rfl,rfl⟩:=H;go_enter Tryz.func78,Tryz.ntmps78;go_wp2_with (first | ((with_reducible refine gate_dst (N:=2) rfl ?_);refine bxA 2 #[.int .u64 a0_0,.int .u64 a0_1] 66 ?_;intro gb224 hg w9 hbox hb;have BK224:=Am (hbox);have GW224:=gW_ hg;have GE224:=gW_ hg;replace HB:=hb_ hb;clear hb hbox hg) | ((with_reducible refine gate_dst (N:=4) rfl ?_);refine bxA 4 #[.int .u64 0,.int .u64 0] 66 ?_;intro gb225 hg w10 hbox hb;have BK225:=Am (hbox);have GW225:=gW_ hg;have GE225:=gW_ hg;have NB224_225:=nA_ (g:=gb224) hg;have NB225_224:=nB_ (g:=gb224) hg;replace BK224:=kb_ (g:=gb224) hb;replace HB:=hb_ hb;clear hb hbox hg;have hnb11:=NB224_225.out;have hnc11:=NB225_224.out;obtain ⟨hcz12_0,hcz12_1,hfz12_0,hfz12_1⟩:=k2 BK224.out) | (go_at_call 98;(with_reducible refine (bits_Div64.calls k (Int.tmod a0_0 a1) a0_1 a1 t226 t227 _ A8.out).mono ?_);rintro e w' ⟨rfl,⟨nd,rfl⟩⟩;(try first | exact ⟨rfl,_,World.drewN_drewN _ _ _⟩ | exact ⟨rfl,_,Eq.trans (World.drewN_drewN _ _ _) (congrArg (World.drewN _) (Nat.add_assoc _ _ _))⟩);obtain ⟨hcz13_0,hcz13_1,hfz13_0,hfz13_1⟩:=k2 BK225.out))
  repeat (go_quiet (first | ((with_reducible refine gate_dst (N:=2) rfl ?_);refine bxA 2 #[.int .u64 a0_0,.int .u64 a0_1] 66 ?_;intro gb224 hg w9 hbox hb;have BK224:=Am (hbox);have GW224:=gW_ hg;have GE224:=gW_ hg;replace HB:=hb_ hb;clear hb hbox hg) | ((with_reducible refine gate_dst (N:=4) rfl ?_);refine bxA 4 #[.int .u64 0,.int .u64 0] 66 ?_;intro gb225 hg w10 hbox hb;have BK225:=Am (hbox);have GW225:=gW_ hg;have GE225:=gW_ hg;have NB224_225:=nA_ (g:=gb224) hg;have NB225_224:=nB_ (g:=gb224) hg;replace BK224:=kb_ (g:=gb224) hb;replace HB:=hb_ hb;clear hb hbox hg;have hnb11:=NB224_225.out;have hnc11:=NB225_224.out;obtain ⟨hcz12_0,hcz12_1,hfz12_0,hfz12_1⟩:=k2 BK224.out) | (go_at_call 98;(with_reducible refine (bits_Div64.calls k (Int.tmod a0_0 a1) a0_1 a1 t226 t227 _ A8.out).mono ?_);rintro e w' ⟨rfl,⟨nd,rfl⟩⟩;(try first | exact ⟨rfl,_,World.drewN_drewN _ _ _⟩ | exact ⟨rfl,_,Eq.trans (World.drewN_drewN _ _ _) (congrArg (World.drewN _) (Nat.add_assoc _ _ _))⟩);obtain ⟨hcz13_0,hcz13_1,hfz13_0,hfz13_1⟩:=k2 BK225.out));try go_wp2_with (first | ((with_reducible refine gate_dst (N:=2) rfl ?_);refine bxA 2 #[.int .u64 a0_0,.int .u64 a0_1] 66 ?_;intro gb224 hg w9 hbox hb;have BK224:=Am (hbox);have GW224:=gW_ hg;have GE224:=gW_ hg;replace HB:=hb_ hb;clear hb hbox hg) | ((with_reducible refine gate_dst (N:=4) rfl ?_);refine bxA 4 #[.int .u64 0,.int .u64 0] 66 ?_;intro gb225 hg w10 hbox hb;have BK225:=Am (hbox);have GW225:=gW_ hg;have GE225:=gW_ hg;have NB224_225:=nA_ (g:=gb224) hg;have NB225_224:=nB_ (g:=gb224) hg;replace BK224:=kb_ (g:=gb224) hb;replace HB:=hb_ hb;clear hb hbox hg;have hnb11:=NB224_225.out;have hnc11:=NB225_224.out;obtain ⟨hcz12_0,hcz12_1,hfz12_0,hfz12_1⟩:=k2 BK224.out) | (go_at_call 98;(with_reducible refine (bits_Div64.calls k (Int.tmod a0_0 a1) a0_1 a1 t226 t227 _ A8.out).mono ?_);rintro e w' ⟨rfl,⟨nd,rfl⟩⟩;(try first | exact ⟨rfl,_,World.drewN_drewN _ _ _⟩ | exact ⟨rfl,_,Eq.trans (World.drewN_drewN _ _ _) (congrArg (World.drewN _) (Nat.add_assoc _ _ _))⟩);obtain ⟨hcz13_0,hcz13_1,hfz13_0,hfz13_1⟩:=k2 BK225.out)))
  refine bodyPost_ret (results_ctt rfl _ _ gb225 66 #[.int .u64 (IntKind.u64.wrap (Int.tdiv a0_0 a1)),.int .u64 t226] (0,0) _ rfl (by (with_reducible repeat (first | refine b1 ?_ _ | refine b2 ?_ | refine b3 ?_ _));refine blk_put (cs:=#[.int .u64 (IntKind.u64.wrap (Int.tdiv a0_0 a1)),.int .u64 0]) ?_ 1 _ rfl;(with_reducible repeat (first | refine b1 ?_ _ | refine b2 ?_ | refine b3 ?_ _));refine blk_put (cs:=#[.int .u64 0,.int .u64 0]) ?_ 0 _ rfl;exact kA) Tryz.underlying66 rfl (by kernel_rfl)) rfl ?_;exact eA

end Go.Proofs.YtodibpddlibneaaGreatDoor.GSH
namespace Go.Proofs.YtodibpddlibneaaGreatDoor.Q
open Go.RowKit GSH YtodibpddlibneaaGreatDoorW.PrintWords YtodibpddlibneaaGreatDoorW.PrintLast YtodibpddlibneaaGreatDoorW.PrintMore
/-- How many bits the bytes have,as the library's table tells it. -/
def lenTab : ByteArray:=⟨#[0,1,2,2,3,3,3,3,4,4,4,4,4,4,4,4,5,5,5,5,5,5,5,5,5,5,5,5,5,5,5,5,6,6,6,6,6,6,6,6,6,6,6,6,6,6,6,6,6,6,6,6,6,6,6,6,6,6,6,6,6,6,6,6,7,7,7,7,7,7,7,7,7,7,7,7,7,7,7,7,7,7,7,7,7,7,7,7,7,7,7,7,7,7,7,7,7,7,7,7,7,7,7,7,7,7,7,7,7,7,7,7,7,7,7,7,7,7,7,7,7,7,7,7,7,7,7,7,8,8,8,8,8,8,8,8,8,8,8,8,8,8,8,8,8,8,8,8,8,8,8,8,8,8,8,8,8,8,8,8,8,8,8,8,8,8,8,8,8,8,8,8,8,8,8,8,8,8,8,8,8,8,8,8,8,8,8,8,8,8,8,8,8,8,8,8,8,8,8,8,8,8,8,8,8,8,8,8,8,8,8,8,8,8,8,8,8,8,8,8,8,8,8,8,8,8,8,8,8,8,8,8,8,8,8,8,8,8,8,8,8,8,8,8,8,8,8,8,8,8,8,8,8,8,8,8]⟩
theorem lenTab_nat : ∀ i : Fin 256,i.val ≠ 0 → 1 ≤ (bt lenTab (i.val : Int)).toNat ∧ (bt lenTab (i.val : Int)).toNat ≤ 8 ∧ 2 ^ ((bt lenTab (i.val : Int)).toNat - 1) ≤ i.val ∧ i.val < 2 ^ (bt lenTab (i.val : Int)).toNat:=by decide +kernel
theorem lenTab_at {i : Int} (h0 : 0 < i) (h1 : i < 256) : ∃ n : Nat,bt lenTab i = (n : Int) ∧ 1 ≤ n ∧ n ≤ 8 ∧ 2 ^ (n - 1) ≤ i ∧ i < 2 ^ n:=by
  obtain ⟨m,rfl⟩:=Int.eq_ofNat_of_zero_le (Int.le_of_lt h0);have h:=lenTab_nat ⟨m,by omega⟩ (by simp;omega);have r:=bt_range lenTab (m : Int);refine ⟨(bt lenTab (m : Int)).toNat,by omega,h.1,h.2.1,?_,?_⟩
  · exact_mod_cast h.2.2.1
  · exact_mod_cast h.2.2.2
theorem len_pow {x y : Int} {n : Nat} (j : Nat) (hx : 2 ^ (n - 1) ≤ x / 2 ^ j) (hy : x / 2 ^ j < 2 ^ n) (hn : 1 ≤ n) : 2 ^ (n + j - 1) ≤ x ∧ x < 2 ^ (n + j):=by
  have p:=pow_pos_ j;rw [Int.le_ediv_iff_mul_le p,← Int.pow_add] at hx;rw [Int.ediv_lt_iff_lt_mul p,← Int.pow_add] at hy;rw [show n + j - 1 = n - 1 + j by omega];exact ⟨hx,hy⟩
theorem len_j0 (k : Nat) (x0 x2 : Int) : bits_Len64.j0 (k + 1) x0 x2 = if x0 ≥ 65536 then (if (x0 / 65536) ≥ 256 then (if 0 ≤ (((x0 / 65536) / 256) % 256) then (if (((x0 / 65536) / 256) % 256) < 256 then (some (wrap64 ((wrap64 ((wrap64 (x2 + 16)) + 8)) + (wrap64 (bt lenTab (((x0 / 65536) / 256) % 256)))))) else (none)) else (none)) else (if 0 ≤ ((x0 / 65536) % 256) then (if ((x0 / 65536) % 256) < 256 then (some (wrap64 ((wrap64 (x2 + 16)) + (wrap64 (bt lenTab ((x0 / 65536) % 256)))))) else (none)) else (none))) else (if x0 ≥ 256 then (if 0 ≤ ((x0 / 256) % 256) then (if ((x0 / 256) % 256) < 256 then (some (wrap64 ((wrap64 (x2 + 8)) + (wrap64 (bt lenTab ((x0 / 256) % 256)))))) else (none)) else (none)) else (if 0 ≤ (x0 % 256) then (if (x0 % 256) < 256 then (some (wrap64 (x2 + (wrap64 (bt lenTab (x0 % 256)))))) else (none)) else (none))):=rfl
/-- 64 less the leading zeros. -/
theorem len64 {x : Int} (k : Nat) (hk : 1 ≤ k) (h0 : 0 < x) (h1 : x < 18446744073709551616) : ∃ n : Nat,bits_Len64.f k x = some (n : Int) ∧ 1 ≤ n ∧ n ≤ 64 ∧ 2 ^ (n - 1) ≤ x ∧ x < 2 ^ n:=by
  obtain ⟨k,rfl⟩ : ∃ m,k = m + 1:=⟨k - 1,by omega⟩;have base : ∀ (z : Int) (c : Nat),0 < z → z < 4294967296 → c ≤ 32 → ∃ n : Nat,bits_Len64.j0 (k + 1) z (c : Int) = some ((n : Int) + (c : Int)) ∧ 1 ≤ n ∧ n ≤ 32 ∧ 2 ^ (n - 1) ≤ z ∧ z < 2 ^ n:=by
    intro z c hz0 hz1 hc;rw [len_j0]
    by_cases a : z ≥ 65536
    · rw [if_pos a]
      by_cases b : z / 65536 ≥ 256
      · rw [if_pos b,if_pos (by omega),if_pos (by omega),show ((z / 65536) / 256) % 256 = z / 16777216 by omega]
        obtain ⟨n,hn,g1,g2,g3,g4⟩:=lenTab_at (i:=z / 16777216) (by omega) (by omega);rw [hn,wrap64_in (x:=(n : Int)) (by omega) (by omega),wrap64_in (x:=(c : Int) + 16) (by omega) (by omega),wrap64_in (x:=(c : Int) + 16 + 8) (by omega) (by omega),wrap64_in (by omega) (by omega)]
        have:=len_pow (y:=0) (x:=z) 24 (by simpa using g3) (by simpa using g4) g1;exact ⟨n + 24,congrArg some (by omega),by omega,by omega,this.1,this.2⟩
      · rw [if_neg b,if_pos (by omega),if_pos (by omega),show (z / 65536) % 256 = z / 65536 by omega]
        obtain ⟨n,hn,g1,g2,g3,g4⟩:=lenTab_at (i:=z / 65536) (by omega) (by omega);rw [hn,wrap64_in (x:=(n : Int)) (by omega) (by omega),wrap64_in (x:=(c : Int) + 16) (by omega) (by omega),wrap64_in (by omega) (by omega)]
        have:=len_pow (y:=0) (x:=z) 16 (by simpa using g3) (by simpa using g4) g1;exact ⟨n + 16,congrArg some (by omega),by omega,by omega,this.1,this.2⟩
    · rw [if_neg a]
      by_cases b : z ≥ 256
      · rw [if_pos b,if_pos (by omega),if_pos (by omega),show (z / 256) % 256 = z / 256 by omega]
        obtain ⟨n,hn,g1,g2,g3,g4⟩:=lenTab_at (i:=z / 256) (by omega) (by omega);rw [hn,wrap64_in (x:=(n : Int)) (by omega) (by omega),wrap64_in (x:=(c : Int) + 8) (by omega) (by omega),wrap64_in (by omega) (by omega)]
        have:=len_pow (y:=0) (x:=z) 8 (by simpa using g3) (by simpa using g4) g1;exact ⟨n + 8,congrArg some (by omega),by omega,by omega,this.1,this.2⟩
      · rw [if_neg b,if_pos (by omega),if_pos (by omega),show z % 256 = z by omega]
        obtain ⟨n,hn,g1,g2,g3,g4⟩:=lenTab_at (i:=z) (by omega) (by omega);rw [hn,wrap64_in (x:=(n : Int)) (by omega) (by omega),wrap64_in (by omega) (by omega)];exact ⟨n,congrArg some (by omega),by omega,by omega,g3,g4⟩
  unfold bits_Len64.f
  by_cases a : x ≥ 4294967296
  · rw [if_pos a]
    obtain ⟨n,hn,g1,g2,g3,g4⟩:=base (x / 4294967296) 32 (by omega) (by omega) (by omega)
    have:=len_pow (y:=0) (x:=x) 32 (by simpa using g3) (by simpa using g4) g1;exact ⟨n + 32,by rw [show (32 : Int) = ((32 : Nat) : Int) from rfl,hn];rfl,by omega,by omega,this.1,this.2⟩
  · rw [if_neg a]
    obtain ⟨n,hn,g1,g2,g3,g4⟩:=base x 0 (by omega) (by omega) (by omega);exact ⟨n,by rw [show (0 : Int) = ((0 : Nat) : Int) from rfl,hn];simp,by omega,by omega,g3,g4⟩
theorem lead64 {x : Int} (k : Nat) (hk : 1 ≤ k) (h0 : 0 < x) (h1 : x < 18446744073709551616) : ∃ s : Nat,bits_LeadingZeros64.f k x = some (s : Int) ∧ s ≤ 63 ∧ 9223372036854775808 ≤ x * 2 ^ s ∧ x * 2 ^ s < 18446744073709551616:=by
  obtain ⟨n,hn,g1,g2,g3,g4⟩:=len64 k hk h0 h1;refine ⟨64 - n,?_,by omega,?_,?_⟩
  · unfold bits_LeadingZeros64.f
    rw [hn];simp only [Option.bind_some];rw [wrap64_in (by omega) (by omega)]
    congr 1
    omega
  · have e : (2 : Int) ^ (n - 1) * 2 ^ (64 - n) = 9223372036854775808:=by rw [← Int.pow_add,show n - 1 + (64 - n) = 63 by omega];rfl
    have:=Int.mul_le_mul_of_nonneg_right g3 (Int.le_of_lt (pow_pos_ (64 - n)));omega
  · have e : (2 : Int) ^ n * 2 ^ (64 - n) = 18446744073709551616:=by rw [← Int.pow_add,show n + (64 - n) = 64 by omega];rfl
    have:=Int.mul_lt_mul_of_pos_right g4 (pow_pos_ (64 - n));omega

/-- The first digit's loop comes to the digit. -/
theorem div_l0 {y y1 y0 u n x8 x14 : Int} {r : Option (Int × Int)} {m : Nat} (hr : ∀ k,m ≤ k → bits_Div64.j2 k y x8 y1 y0 u n x14 ((u * 4294967296 + n) / y) = r) (t : Nat) :
    ∀ (k : Nat) (q rh : Int),m + 2 * t + 2 ≤ k → Est y y1 y0 u n q rh → 4294967296 ≤ rh + (t : Int) * 2147483648 → bits_Div64.l0 k y x8 y1 y0 u n x14 q rh = r:=by
  induction t with
  | zero =>
    intro k q rh _ h ht
    have:=h.hr';omega
  | succ t ih =>
    intro k q rh hk h ht;obtain ⟨k,rfl⟩ : ∃ m,k = m + 2:=⟨k - 2,by omega⟩;have step : ∀ b : Bool,(b = true → q ≥ 4294967296 ∨ q * y0 > 4294967296 * rh + n) → (b = false → ¬ q * y0 > 4294967296 * rh + n) → bits_Div64.j1 (k + 1) y x8 y1 y0 u n x14 q rh b = r:=by
      intro b b1 b2;simp only [bits_Div64.j1]
      cases b with
      | true =>
        have c:=b1 rfl;have hp:=h.q_pos c
        have:=h.q1;have:=h.hr;have:=h.hr';have:=h.h1;have:=h.h1';rw [if_pos rfl,w64_in (x:=rh + y1) (by omega) (by omega),w64_in (x:=q - 1) (by omega) (by omega)]
        by_cases d : rh + y1 ≥ 4294967296
        · rw [if_pos d,h.last c d]
          exact hr k (by omega)
        · rw [if_neg d]
          exact ih k _ _ (by omega) (h.next c (by omega)) (by omega)
      | false =>
        rw [if_neg (by decide),h.stop (b2 rfl)];exact hr k (by omega)
    simp only [bits_Div64.l0]
    by_cases c : q ≥ 4294967296
    · rw [if_pos c]
      exact step true (fun _ => .inl c) (fun h => by cases h)
    · rw [if_neg c]
      have g1:=h.qy0;have g2 : q * y0 ≤ 4294967295 * y0:=Int.mul_le_mul_of_nonneg_right (by omega) h.h0
      have:=h.h0';have:=h.hr;have:=h.hr';have:=h.hn;have:=h.hn';rw [w64_in (x:=q * y0) (by omega) (by omega),w64_in (x:=4294967296 * rh) (by omega) (by omega),w64_in (x:=4294967296 * rh + n) (by omega) (by omega)];exact step _ (fun hb => .inr (of_decide_eq_true hb)) (fun hb => of_decide_eq_false hb)
/-- The second digit's loop comes to the digit,and to the end. -/
theorem div_l1 {y y1 y0 u n x15 : Int} (s : Nat) (hU : U y) (t : Nat) :
    ∀ (k : Nat) (q rh : Int),2 * t + 2 ≤ k → Est y y1 y0 u n q rh → 4294967296 ≤ rh + (t : Int) * 2147483648 →
      bits_Div64.l1 k y (s : Int) y1 y0 n x15 rh u q = some (IntKind.u64.wrap ((IntKind.u64.wrap (x15 * 4294967296)) + (u * 4294967296 + n) / y),shr .u64 ((u * 4294967296 + n) % y) (s : Int)):=by
  have rest : ∀ (q rh : Int),Est y y1 y0 u n q rh → IntKind.u64.wrap ((IntKind.u64.wrap ((IntKind.u64.wrap (u * 4294967296)) + n)) - (IntKind.u64.wrap ((u * 4294967296 + n) / y * y))) = (u * 4294967296 + n) % y:=by
    intro q rh h;have e:=Int.mul_ediv_add_emod (u * 4294967296 + n) y;rw [Int.mul_comm] at e;have m0:=Int.emod_nonneg (u * 4294967296 + n) (show y ≠ 0 by have:=h.pos;omega);have m1:=Int.emod_lt_of_pos (u * 4294967296 + n) h.pos
    have:=hU.2;simp only [w64];generalize (u * 4294967296 + n) / y * y = z at *;omega
  induction t with
  | zero =>
    intro k q rh _ h ht
    have:=h.hr';omega
  | succ t ih =>
    intro k q rh hk h ht;obtain ⟨k,rfl⟩ : ∃ m,k = m + 2:=⟨k - 2,by omega⟩;have step : ∀ b : Bool,(b = true → q ≥ 4294967296 ∨ q * y0 > 4294967296 * rh + n) → (b = false → ¬ q * y0 > 4294967296 * rh + n) → bits_Div64.j4 (k + 1) y (s : Int) y1 y0 n x15 rh u q b = some (IntKind.u64.wrap ((IntKind.u64.wrap (x15 * 4294967296)) + (u * 4294967296 + n) / y),shr .u64 ((u * 4294967296 + n) % y) (s : Int)):=by
      intro b b1 b2;simp only [bits_Div64.j4]
      cases b with
      | true =>
        have c:=b1 rfl;have hp:=h.q_pos c
        have:=h.q1;have:=h.hr;have:=h.hr';have:=h.h1;have:=h.h1';rw [if_pos rfl,w64_in (x:=rh + y1) (by omega) (by omega),w64_in (x:=q - 1) (by omega) (by omega)]
        by_cases d : rh + y1 ≥ 4294967296
        · rw [if_pos d,if_pos (by omega),h.last c d,rest q rh h]
        · rw [if_neg d]
          exact ih k _ _ (by omega) (h.next c (by omega)) (by omega)
      | false =>
        rw [if_neg (by decide),if_pos (by omega)];have hq:=h.stop (b2 rfl);have hz:=rest q rh h;rw [← hq] at hz ⊢;rw [hz]
    simp only [bits_Div64.l1]
    by_cases c : q ≥ 4294967296
    · rw [if_pos c]
      exact step true (fun _ => .inl c) (fun h => by cases h)
    · rw [if_neg c]
      have g1:=h.qy0;have g2 : q * y0 ≤ 4294967295 * y0:=Int.mul_le_mul_of_nonneg_right (by omega) h.h0
      have:=h.h0';have:=h.hr;have:=h.hr';have:=h.hn;have:=h.hn';rw [w64_in (x:=q * y0) (by omega) (by omega),w64_in (x:=4294967296 * rh) (by omega) (by omega),w64_in (x:=4294967296 * rh + n) (by omega) (by omega)];exact step _ (fun hb => .inr (of_decide_eq_true hb)) (fun hb => of_decide_eq_false hb)
theorem div_j2 {y y1 y0 u n1 n0 : Int} (s : Nat) (hU : U y) (hy : y = y1 * 4294967296 + y0) (h1 : 2147483648 ≤ y1) (h1' : y1 < 4294967296) (h0 : 0 ≤ y0) (h0' : y0 < 4294967296) (hu : 0 ≤ u) (hu' : u < y) (hn : 0 ≤ n1) (hn' : n1 < 4294967296) (hm : 0 ≤ n0) (hm' : n0 < 4294967296) :
    ∀ k,7 ≤ k → bits_Div64.j2 k y (s : Int) y1 y0 u n1 n0 ((u * 4294967296 + n1) / y) = some ((u * 18446744073709551616 + n1 * 4294967296 + n0) / y,shr .u64 ((u * 18446744073709551616 + n1 * 4294967296 + n0) % y) (s : Int)):=by
  intro k hk;obtain ⟨k,rfl⟩ : ∃ m,k = m + 1:=⟨k - 1,by omega⟩;simp only [bits_Div64.j2];have yp : 0 < y:=by omega
  have e:=Int.mul_ediv_add_emod (u * 4294967296 + n1) y;rw [Int.mul_comm] at e;have m0:=Int.emod_nonneg (u * 4294967296 + n1) (show y ≠ 0 by omega);have m1:=Int.emod_lt_of_pos (u * 4294967296 + n1) yp;have q0 : 0 ≤ (u * 4294967296 + n1) / y:=Int.ediv_nonneg (by omega) (by omega);have q1 : (u * 4294967296 + n1) / y < 4294967296:=by rw [Int.ediv_lt_iff_lt_mul yp];omega
  have hU2:=hU.2;have hun : IntKind.u64.wrap ((IntKind.u64.wrap ((IntKind.u64.wrap (u * 4294967296)) + n1)) - (IntKind.u64.wrap ((u * 4294967296 + n1) / y * y))) = (u * 4294967296 + n1) % y:=by
    simp only [w64];generalize (u * 4294967296 + n1) / y * y = z at *;omega
  rw [if_neg (by omega),hun];generalize hR : (u * 4294967296 + n1) % y = R1 at *;generalize hQ : (u * 4294967296 + n1) / y = Q1 at *;have es:=Est.start (u:=R1) (n:=n0) hy h1 h1' h0 h0' m0 m1 hm hm';have d0 : 0 ≤ R1 / y1:=Int.ediv_nonneg m0 (by omega);have d1:=es.q1;have dd : 0 ≤ R1 / y1 * y1:=Int.mul_nonneg d0 (by omega);have eq:=Int.mul_ediv_add_emod R1 y1;rw [Int.mul_comm] at eq;have r0:=Int.emod_nonneg R1 (show y1 ≠ 0 by omega);have r1:=Int.emod_lt_of_pos R1 (show 0 < y1 by omega);rw [tdiv_eq m0,w64_in (x:=R1 / y1) d0 (by omega),w64_in (x:=R1 / y1 * y1) (by omega) (by omega),w64_in (x:=R1 - R1 / y1 * y1) (by omega) (by omega)];rw [div_l1 s hU 2 k _ _ (by omega) es (by omega)];have z1 : (R1 * 4294967296 + n0) / y < 4294967296:=es.small;have z0 : 0 ≤ (R1 * 4294967296 + n0) / y:=Int.ediv_nonneg (by omega) (by omega);have hW : u * 18446744073709551616 + n1 * 4294967296 + n0 = R1 * 4294967296 + n0 + Q1 * 4294967296 * y:=by
    rw [Int.mul_right_comm];omega
  rw [hW,Int.add_mul_ediv_right _ _ (by omega),Int.add_mul_emod_self_right];rw [w64_in (x:=Q1 * 4294967296) (by omega) (by omega),w64_in (by omega) (by omega),Int.add_comm]
theorem div64 {h l y : Int} (k : Nat) (hk : 20 ≤ k) (h1 : U h) (h2 : U l) (h3 : U y) (hlt : h < y) : bits_Div64.f k h l y = some (V h l / y,V h l % y):=by
  unfold bits_Div64.f;obtain ⟨h1a,h1b⟩:=h1;obtain ⟨h2a,h2b⟩:=h2;obtain ⟨h3a,h3b⟩:=h3;rw [if_neg (by omega),if_neg (by omega)]
  by_cases hz : h = 0
  · subst hz
    rw [if_pos rfl,tdiv_eq h2a,tmod_eq h2a];have : V 0 l = l:=by unfold V;omega
    rw [this];have d0 : 0 ≤ l / y:=Int.ediv_nonneg h2a (by omega);have d1 : l / y ≤ l:=Int.ediv_le_self y h2a;rw [w64_in d0 (by omega)]
  · rw [if_neg hz]
    obtain ⟨s,hs,s1,s2,s3⟩:=lead64 (x:=y) k (by omega) (by omega) (by omega);rw [hs];simp only [Option.bind_some];have ps:=pow_pos_ s;have hy2 : h * 2 ^ s ≤ (y - 1) * 2 ^ s:=Int.mul_le_mul_of_nonneg_right (by omega) (by omega);rw [Int.sub_mul] at hy2;have hh0 : 0 ≤ h * 2 ^ s:=Int.mul_nonneg h1a (by omega);have dl:=div_lt_pow (x:=l) s (by omega) ⟨h2a,h2b⟩;rw [w64_in (x:=(s : Int)) (by omega) (by omega),w64_in (x:=64 - (s : Int)) (by omega) (by omega)];rw [show 64 - (s : Int) = ((64 - s : Nat) : Int) by omega,if_pos (by omega),if_pos (by omega),shl_at s (by omega),shl_at s (by omega),shl_at s (by omega),shr_at (64 - s) (by omega)];rw [or_add s (umod _) (emod_pow s (by omega)) dl.1 dl.2 (by have:=pow_bd s (by omega);omega)];have eY : y * 2 ^ s % 18446744073709551616 = y * 2 ^ s:=by omega
    have eH : h * 2 ^ s % 18446744073709551616 = h * 2 ^ s:=by omega
    rw [eY,eH];have hW : V h l * 2 ^ s = (h * 2 ^ s + l / 2 ^ (64 - s)) * 18446744073709551616 + l * 2 ^ s % 18446744073709551616:=by
      have e1 : V h l * 2 ^ s = h * 2 ^ s * 18446744073709551616 + l * 2 ^ s:=by unfold V;rw [Int.add_mul,Int.mul_right_comm]
      have e2 : l * 2 ^ s / 18446744073709551616 = l / 2 ^ (64 - s):=by
        rw [← pow_split s (by omega),Int.mul_comm l,Int.mul_ediv_mul_of_pos _ _ ps]
      rw [e1];omega
    generalize hl : l * 2 ^ s % 18446744073709551616 = L at *;have uL : 0 ≤ L ∧ L < 18446744073709551616:=by rw [← hl];omega
    generalize hu : h * 2 ^ s + l / 2 ^ (64 - s) = u at *;generalize hY : y * 2 ^ s = Y at *;have u0 : 0 ≤ u:=by omega
    have u1 : u < Y:=by omega
    rw [and32 ⟨by omega,s3⟩,and32 ⟨uL.1,uL.2⟩,if_neg (by omega)];have es:=Est.start (y:=Y) (y1:=Y / 4294967296) (y0:=Y % 4294967296) (u:=u) (n:=L / 4294967296) (by omega) (by omega) (by omega) (by omega) (by omega) u0 u1 (by omega) (by omega);have d0 : 0 ≤ u / (Y / 4294967296):=Int.ediv_nonneg u0 (by omega);have d1:=es.q1;have dd : 0 ≤ u / (Y / 4294967296) * (Y / 4294967296):=Int.mul_nonneg d0 (by omega);have eq:=Int.mul_ediv_add_emod u (Y / 4294967296);rw [Int.mul_comm] at eq;have r0:=Int.emod_nonneg u (show Y / 4294967296 ≠ 0 by omega);have r1:=Int.emod_lt_of_pos u (show 0 < Y / 4294967296 by omega);rw [tdiv_eq u0,w64_in (x:=u / (Y / 4294967296)) d0 (by omega),w64_in (x:=u / (Y / 4294967296) * (Y / 4294967296)) (by omega) (by omega),w64_in (x:=u - u / (Y / 4294967296) * (Y / 4294967296)) (by omega) (by omega)];rw [div_l0 (m:=7) (div_j2 s ⟨by omega,s3⟩ (by omega) (by omega) (by omega) (by omega) (by omega) u0 u1 (by omega) (by omega) (by omega) (by omega)) 2 k _ _ (by omega) es (by omega)];rw [show u * 18446744073709551616 + L / 4294967296 * 4294967296 + L % 4294967296 = V h l * 2 ^ s by rw [hW];omega,← hY,Int.mul_ediv_mul_of_pos_left _ _ ps]
    congr 2
    rw [shr_at s (by omega),Int.mul_comm (V h l),Int.mul_comm y,Int.mul_emod_mul_of_pos _ _ ps,Int.mul_ediv_cancel_left _ (by omega)]
theorem wdiv {ah al b : Int} (k : Nat) (hk : 20 ≤ k) (h1 : U ah) (h2 : U al) (hb : U b) (hb0 : b ≠ 0) :
    wide_Div.f k ah al b = some (V ah al / b / 18446744073709551616,V ah al / b % 18446744073709551616,V ah al % b,true):=by
  unfold wide_Div.f;obtain ⟨h1a,h1b⟩:=h1;obtain ⟨h2a,h2b⟩:=h2;obtain ⟨hba,hbb⟩:=hb;rw [if_neg hb0,tmod_eq h1a,tdiv_eq h1a];have m0:=Int.emod_nonneg ah hb0;have m1:=Int.emod_lt_of_pos ah (show 0 < b by omega);have e:=Int.mul_ediv_add_emod ah b;rw [Int.mul_comm] at e;have d0 : 0 ≤ ah / b:=Int.ediv_nonneg h1a hba;have d1 : ah / b ≤ ah:=Int.ediv_le_self b h1a;rw [div64 k hk ⟨m0,by omega⟩ ⟨h2a,h2b⟩ ⟨hba,hbb⟩ m1];simp only [Option.bind_some];rw [w64_in d0 (by omega)];have hV : V ah al = V (ah % b) al + ah / b * 18446744073709551616 * b:=by
    unfold V;rw [Int.mul_right_comm];omega
  have v0 : 0 ≤ V (ah % b) al / b:=Int.ediv_nonneg (by unfold V;omega) hba;have v1 : V (ah % b) al / b < 18446744073709551616:=by
    rw [Int.ediv_lt_iff_lt_mul (by omega)];unfold V;omega
  have e1 : V ah al / b = V (ah % b) al / b + ah / b * 18446744073709551616:=by rw [hV,Int.add_mul_ediv_right _ _ hb0]
  have e2 : V ah al % b = V (ah % b) al % b:=by rw [hV,Int.add_mul_emod_self_right]
  rw [e1,e2]
  congr 2
  · omega
  · congr 1
    omega
theorem wdiv0 {ah al : Int} (k : Nat) : wide_Div.f k ah al 0 = some (0,0,0,false):=by
  unfold wide_Div.f;rw [if_pos rfl]
end Go.Proofs.YtodibpddlibneaaGreatDoor.Q
namespace Go.Proofs.YtodibpddlibneaaGreatDoor.GSH
open Go.RowKit YtodibpddlibneaaGreatDoorW.PrintWords YtodibpddlibneaaGreatDoorW.PrintLast YtodibpddlibneaaGreatDoorW.PrintMore
attribute [local go_sem] max2_int min2_int max_two min_two max_three min_three max_four min_four   -- for this text's walks alone
set_option linter.unusedVariables false
set_option linter.unusedSimpArgs false
def config_asked_bound.f (a0_0 : Int) (a0_1 : Int) (a0_2 : Int) (a0_3 : Int) (a0_4 : Int) (a0_5 : Int) (a0_6 : Int) (a0_7 : Int) : Option (Int):=(config_asked_lead.f a0_0 a0_1 a0_2 a0_3 a0_4 a0_5 a0_6 a0_7).bind fun t179 => (some (wrap64 ((wrap64 (t179 + 1)) + (wrap64 (a0_1 * a0_2)))))
def config_asked_bound.T1 : Bool × List (List Nat × List Nat):=(true,[([],[]),([0],[0]),([1],[1]),([],[]),([3],[3]),([4],[4]),([],[]),([6],[6]),([7],[7]),([5,8],[5,8]),([2,9],[2,9]),([10,1,0,1,2,3,4,5,6,7,8,9,10],[10])])
def config_asked_bound.B1 : List Nat:=[0,1,3,0,8,24,0,64,192,504,1023,2047]
theorem config_asked_bound.tab1 : rtab .any (opsOf Tryz.f68 1) = config_asked_bound.T1:=by kernel_rfl
theorem config_asked_bound.bits1 : waitsOk config_asked_bound.T1.2 config_asked_bound.B1 = true:=by kernel_rfl
theorem config_asked_bound.calls (a0_0 : Int) (a0_1 : Int) (a0_2 : Int) (a0_3 : Int) (a0_4 : Int) (a0_5 : Int) (a0_6 : Int) (a0_7 : Int) (r : Int) (w : World) (h : config_asked_bound.f a0_0 a0_1 a0_2 a0_3 a0_4 a0_5 a0_6 a0_7 = some r) :
  Calls Tryz.prog 68 #[.agg #[.int .i64 a0_0,.int .i64 a0_1,.int .i64 a0_2,.int .i64 a0_3,.int .i64 a0_4,.int .i64 a0_5,.int .i64 a0_6,.int .i64 a0_7]] w fun e w' => e = .returned (.int .i64 r) ∧ Below w.heap.size w w':=by
 have hu73:=Tryz.underlying73;have HB:=Am (Below.refl w.heap.size w);have H : ((config_asked_lead.f a0_0 a0_1 a0_2 a0_3 a0_4 a0_5 a0_6 a0_7).bind fun t179 => (some (wrap64 ((wrap64 (t179 + 1)) + (wrap64 (a0_1 * a0_2)))))) = some r:=h;clear h;obtain ⟨t179,A2,H⟩:=bnd H;(try dsimp only at H);obtain rfl:=oI H;go_enter Tryz.func68,Tryz.ntmps68
 try go_wp2_with (first | ((with_reducible refine gate_dst (N:=1) rfl ?_);refine bxA 1 #[.int .i64 a0_0,.int .i64 a0_1,.int .i64 a0_2,.int .i64 a0_3,.int .i64 a0_4,.int .i64 a0_5,.int .i64 a0_6,.int .i64 a0_7] 73 ?_;intro gb178 hg w3 hbox hb;have BK178:=Am (hbox);have GW178:=gW_ hg;have GE178:=gW_ hg;replace HB:=hb_ hb;clear hb hbox hg))
 replace BK178:=Am (blk_drew BK178.out);replace HB:=Am (below_drew1 HB.out);refine start_ (n:=12) (S:=fun w' => w'.cell? ⟨gb178,0,none⟩ = some (.int .i64 a0_0) ∧ w'.cell? ⟨gb178,1,none⟩ = some (.int .i64 a0_1) ∧ w'.cell? ⟨gb178,2,none⟩ = some (.int .i64 a0_2) ∧ w'.cell? ⟨gb178,3,none⟩ = some (.int .i64 a0_3) ∧ w'.cell? ⟨gb178,4,none⟩ = some (.int .i64 a0_4) ∧ w'.cell? ⟨gb178,5,none⟩ = some (.int .i64 a0_5) ∧ w'.cell? ⟨gb178,6,none⟩ = some (.int .i64 a0_6) ∧ w'.cell? ⟨gb178,7,none⟩ = some (.int .i64 a0_7)) (ds:=[]) #[nn,nn,nn,nn,nn,nn,nn,nn,nn,nn,nn,nn] (by kernel_rfl) rfl rfl (q8 BK178.out) (fun hHeld => ?_);refine with_tabW config_asked_bound.tab1 config_asked_bound.bits1 (fun HT_ HW_ => ?_);generalize w3.drew = w4 at BK178 HB hHeld ⊢;refine pu_ 3 (some 6) (bm 12 8) (any_of HT_.out (by kernel_rfl)) ?_;refine pu_ 4 (some 7) (bm 12 24) (any_of HT_.out (by kernel_rfl)) ?_;refine pu_ 6 (some 9) (bm 12 88) (any_of HT_.out (by kernel_rfl)) ?_;refine pu_ 7 (some 10) (bm 12 216) (any_of HT_.out (by kernel_rfl)) ?_;refine tk_ 0 (some 3) (bm 12 217) (take_ofW HT_.out HW_.out (by kernel_rfl)) hHeld ?_;refine tk_ 5 (some 8) (bm 12 249) (take_ofW HT_.out HW_.out (by kernel_rfl)) hHeld ?_;refine tk_ 8 (some 11) (bm 12 505) (take_ofW HT_.out HW_.out (by kernel_rfl)) hHeld ?_;refine pu_ 9 (some 12) (bm 12 1017) (any_of HT_.out (by kernel_rfl)) ?_;refine one_ (i:=1) (N:=some 4) (bm 12 1019) rfl rfl (one_of HT_.out (by kernel_rfl)) (by decide) (fun K hK => ?_);refine goes_ Tryz.func93 (by kernel_rfl) rfl #[.agg #[.int .i64 a0_0,.int .i64 a0_1,.int .i64 a0_2,.int .i64 a0_3,.int .i64 a0_4,.int .i64 a0_5,.int .i64 a0_6,.int .i64 a0_7]] (by rfl) rfl rfl aA ?_;with_reducible refine (config_asked_lead.calls a0_0 a0_1 a0_2 a0_3 a0_4 a0_5 a0_6 a0_7 t179 _ A2.out).mono ?_
 rintro e w5 ⟨rfl,hb⟩;refine ⟨_,rfl,?_⟩;replace BK178:=kb_ (g:=gb178) hb;replace HB:=hb_ hb;(try clear hb);refine hK.out _ _ (q8 BK178.out) (fun hHeld => ?_);clear hK K;refine nm_ ?_;refine pu_ 2 (some 5) (bm 12 1023) (any_of HT_.out (by kernel_rfl)) ?_;refine pu_ 10 (some 13) (bm 12 2047) (any_of HT_.out (by kernel_rfl)) ?_;refine pu_ 11 (some 2) (bm 12 4095) (any_of HT_.out (by kernel_rfl)) ?_;refine done_ (done_of HT_.out (by kernel_rfl)) ?_
 try go_wp2
 go_ret;exact eA

def cmp_isNaN_uint64.f (a0 : Int) : Option (Bool):=some (a0 != a0)
theorem cmp_isNaN_uint64.calls (a0 : Int) (r : Bool) (w : World) (h : cmp_isNaN_uint64.f a0 = some r) :
  Calls Tryz.prog 103 #[.int .u64 a0] w fun e w' => e = .returned (.bool r) ∧ Drawn0 w w':=by
 have H : (some (a0 != a0)) = some r:=h;clear h;obtain rfl:=oI H;go_enter Tryz.func103,Tryz.ntmps103;go_wp2;go_ret;exact ⟨by first | rfl | (simp;done) | (simp [*];done),by repeat (first | exact Drawn0.refl _ | apply Drawn0.step)⟩

def cmp_Compare_uint64.f (a0 : Int) (a1 : Int) : Option (Int):=(cmp_isNaN_uint64.f a0).bind fun t180 => ((cmp_isNaN_uint64.f a1).bind fun t181 => (if t180 = true then (if t181 = true then (some 0) else (some (-1))) else (if t181 = true then (some 1) else (if a0 < a1 then (some (-1)) else (if a0 > a1 then (some 1) else (some 0))))))
theorem cmp_Compare_uint64.calls (a0 : Int) (a1 : Int) (r : Int) (w : World) (h : cmp_Compare_uint64.f a0 a1 = some r) :
  Calls Tryz.prog 94 #[.int .u64 a0,.int .u64 a1] w fun e w' => e = .returned (.int .i64 r) ∧ Drawn0 w w':=by
 have H : ((cmp_isNaN_uint64.f a0).bind fun t180 => ((cmp_isNaN_uint64.f a1).bind fun t181 => (if t180 = true then (if t181 = true then (some 0) else (some (-1))) else (if t181 = true then (some 1) else (if a0 < a1 then (some (-1)) else (if a0 > a1 then (some 1) else (some 0))))))) = some r:=h;clear h;obtain ⟨t180,A3,H⟩:=bnd H;(try dsimp only at H);obtain ⟨t181,A4,H⟩:=bnd H;(try dsimp only at H)
 by_cases c5 : t180 = true
 ·subst c5;have H1 : (if t181 = true then (some 0) else (some (-1))) = some r:=by rw [if_pos rfl] at H;exact H
  clear H;have H:=H1;clear H1
  by_cases c6 : t181 = true
  ·subst c6;have H1 : (some 0) = some r:=by rw [if_pos rfl] at H;exact H
   clear H;have H:=H1;clear H1;obtain rfl:=oI H;go_enter Tryz.func94,Tryz.ntmps94;go_wp2_with (first | ((with_reducible refine gate_callee (f:=103) rfl ?_);refine goesL_ (some 8) rfl rfl Tryz.func103 (by kernel_rfl) rfl #[.int .u64 a0] rfl aA ?_;(with_reducible refine (cmp_isNaN_uint64.calls a0 true _ A3.out).mono ?_);rintro e w' ⟨rfl,⟨nd,rfl⟩⟩;refine ⟨_,rfl,?_⟩) | ((with_reducible refine gate_callee (f:=103) rfl ?_);refine goesL_ (some 10) rfl rfl Tryz.func103 (by kernel_rfl) rfl #[.int .u64 a1] rfl aA ?_;(with_reducible refine (cmp_isNaN_uint64.calls a1 true _ A4.out).mono ?_);rintro e w' ⟨rfl,⟨nd,rfl⟩⟩;refine ⟨_,rfl,?_⟩))
   go_ret;exact ⟨by first | rfl | (simp;done) | (simp [*];done),by repeat (first | exact Drawn0.refl _ | apply Drawn0.step)⟩
  ·replace c6:=Bool.eq_false_iff.mpr c6;subst c6;have H1 : (some (-1)) = some r:=by rw [if_neg (show ¬ (false = true) by decide)] at H;exact H
   clear H;have H:=H1;clear H1;obtain rfl:=oI H;go_enter Tryz.func94,Tryz.ntmps94;go_wp2_with (first | ((with_reducible refine gate_callee (f:=103) rfl ?_);refine goesL_ (some 8) rfl rfl Tryz.func103 (by kernel_rfl) rfl #[.int .u64 a0] rfl aA ?_;(with_reducible refine (cmp_isNaN_uint64.calls a0 true _ A3.out).mono ?_);rintro e w' ⟨rfl,⟨nd,rfl⟩⟩;refine ⟨_,rfl,?_⟩) | ((with_reducible refine gate_callee (f:=103) rfl ?_);refine goesL_ (some 10) rfl rfl Tryz.func103 (by kernel_rfl) rfl #[.int .u64 a1] rfl aA ?_;(with_reducible refine (cmp_isNaN_uint64.calls a1 false _ A4.out).mono ?_);rintro e w' ⟨rfl,⟨nd,rfl⟩⟩;refine ⟨_,rfl,?_⟩))
   go_ret;exact ⟨by first | rfl | (simp;done) | (simp [*];done),by repeat (first | exact Drawn0.refl _ | apply Drawn0.step)⟩
 ·replace c5:=Bool.eq_false_iff.mpr c5;subst c5;have H1 : (if t181 = true then (some 1) else (if a0 < a1 then (some (-1)) else (if a0 > a1 then (some 1) else (some 0)))) = some r:=by rw [if_neg (show ¬ (false = true) by decide)] at H;exact H
  clear H;have H:=H1;clear H1
  by_cases c7 : t181 = true
  ·subst c7;have H1 : (some 1) = some r:=by rw [if_pos rfl] at H;exact H
   clear H;have H:=H1;clear H1;obtain rfl:=oI H;go_enter Tryz.func94,Tryz.ntmps94;go_wp2_with (first | ((with_reducible refine gate_callee (f:=103) rfl ?_);refine goesL_ (some 8) rfl rfl Tryz.func103 (by kernel_rfl) rfl #[.int .u64 a0] rfl aA ?_;(with_reducible refine (cmp_isNaN_uint64.calls a0 false _ A3.out).mono ?_);rintro e w' ⟨rfl,⟨nd,rfl⟩⟩;refine ⟨_,rfl,?_⟩) | ((with_reducible refine gate_callee (f:=103) rfl ?_);refine goesL_ (some 10) rfl rfl Tryz.func103 (by kernel_rfl) rfl #[.int .u64 a1] rfl aA ?_;(with_reducible refine (cmp_isNaN_uint64.calls a1 true _ A4.out).mono ?_);rintro e w' ⟨rfl,⟨nd,rfl⟩⟩;refine ⟨_,rfl,?_⟩))
   go_ret;exact ⟨by first | rfl | (simp;done) | (simp [*];done),by repeat (first | exact Drawn0.refl _ | apply Drawn0.step)⟩
  ·replace c7:=Bool.eq_false_iff.mpr c7;subst c7;have H1 : (if a0 < a1 then (some (-1)) else (if a0 > a1 then (some 1) else (some 0))) = some r:=by rw [if_neg (show ¬ (false = true) by decide)] at H;exact H
   clear H;have H:=H1;clear H1
   by_cases c8 : a0 < a1
   ·rw [if_pos c8] at H;have c8b0 : decide (a0 < a1) = true:=dT c8;clear c8;obtain rfl:=oI H;go_enter Tryz.func94,Tryz.ntmps94;go_wp2_with (first | ((with_reducible refine gate_callee (f:=103) rfl ?_);refine goesL_ (some 8) rfl rfl Tryz.func103 (by kernel_rfl) rfl #[.int .u64 a0] rfl aA ?_;(with_reducible refine (cmp_isNaN_uint64.calls a0 false _ A3.out).mono ?_);rintro e w' ⟨rfl,⟨nd,rfl⟩⟩;refine ⟨_,rfl,?_⟩) | ((with_reducible refine gate_callee (f:=103) rfl ?_);refine goesL_ (some 10) rfl rfl Tryz.func103 (by kernel_rfl) rfl #[.int .u64 a1] rfl aA ?_;(with_reducible refine (cmp_isNaN_uint64.calls a1 false _ A4.out).mono ?_);rintro e w' ⟨rfl,⟨nd,rfl⟩⟩;refine ⟨_,rfl,?_⟩))
    go_ret;exact ⟨by first | rfl | (simp;done) | (simp [*];done),by repeat (first | exact Drawn0.refl _ | apply Drawn0.step)⟩
   ·rw [if_neg c8] at H;have c8b0 : decide (a0 < a1) = false:=dF c8;clear c8
    by_cases c9 : a0 > a1
    ·rw [if_pos c9] at H;have c9b0 : decide (a1 < a0) = true:=dT c9;clear c9;obtain rfl:=oI H;go_enter Tryz.func94,Tryz.ntmps94;go_wp2_with (first | ((with_reducible refine gate_callee (f:=103) rfl ?_);refine goesL_ (some 8) rfl rfl Tryz.func103 (by kernel_rfl) rfl #[.int .u64 a0] rfl aA ?_;(with_reducible refine (cmp_isNaN_uint64.calls a0 false _ A3.out).mono ?_);rintro e w' ⟨rfl,⟨nd,rfl⟩⟩;refine ⟨_,rfl,?_⟩) | ((with_reducible refine gate_callee (f:=103) rfl ?_);refine goesL_ (some 10) rfl rfl Tryz.func103 (by kernel_rfl) rfl #[.int .u64 a1] rfl aA ?_;(with_reducible refine (cmp_isNaN_uint64.calls a1 false _ A4.out).mono ?_);rintro e w' ⟨rfl,⟨nd,rfl⟩⟩;refine ⟨_,rfl,?_⟩))
     go_ret;exact ⟨by first | rfl | (simp;done) | (simp [*];done),by repeat (first | exact Drawn0.refl _ | apply Drawn0.step)⟩
    ·rw [if_neg c9] at H;have c9b0 : decide (a1 < a0) = false:=dF c9;clear c9;obtain rfl:=oI H;go_enter Tryz.func94,Tryz.ntmps94;go_wp2_with (first | ((with_reducible refine gate_callee (f:=103) rfl ?_);refine goesL_ (some 8) rfl rfl Tryz.func103 (by kernel_rfl) rfl #[.int .u64 a0] rfl aA ?_;(with_reducible refine (cmp_isNaN_uint64.calls a0 false _ A3.out).mono ?_);rintro e w' ⟨rfl,⟨nd,rfl⟩⟩;refine ⟨_,rfl,?_⟩) | ((with_reducible refine gate_callee (f:=103) rfl ?_);refine goesL_ (some 10) rfl rfl Tryz.func103 (by kernel_rfl) rfl #[.int .u64 a1] rfl aA ?_;(with_reducible refine (cmp_isNaN_uint64.calls a1 false _ A4.out).mono ?_);rintro e w' ⟨rfl,⟨nd,rfl⟩⟩;refine ⟨_,rfl,?_⟩))
     go_ret;exact ⟨by first | rfl | (simp;done) | (simp [*];done),by repeat (first | exact Drawn0.refl _ | apply Drawn0.step)⟩

def wide_Cmp.f (a0_0 : Int) (a0_1 : Int) (a1_0 : Int) (a1_1 : Int) : Option (Int):=if a0_0 = a1_0 then ((cmp_Compare_uint64.f a0_1 a1_1).bind fun t184 => (some t184)) else ((cmp_Compare_uint64.f a0_0 a1_0).bind fun t185 => (some t185))
theorem wide_Cmp.calls (a0_0 : Int) (a0_1 : Int) (a1_0 : Int) (a1_1 : Int) (r : Int) (w : World) (h : wide_Cmp.f a0_0 a0_1 a1_0 a1_1 = some r) :
  Calls Tryz.prog 69 #[.agg #[.int .u64 a0_0,.int .u64 a0_1],.agg #[.int .u64 a1_0,.int .u64 a1_1]] w fun e w' => e = .returned (.int .i64 r) ∧ Below w.heap.size w w':=by
 have hu66:=Tryz.underlying66;have HB:=Am (Below.refl w.heap.size w);have H : (if a0_0 = a1_0 then ((cmp_Compare_uint64.f a0_1 a1_1).bind fun t184 => (some t184)) else ((cmp_Compare_uint64.f a0_0 a1_0).bind fun t185 => (some t185))) = some r:=h;clear h
 by_cases c3 : a0_0 = a1_0
 ·rw [if_pos c3] at H;have c3b0 : (a0_0 == a1_0) = true:=beq_iff_eq.mpr c3;have c3b1 : (a0_0 != a1_0) = false:=bne_eq_false_iff_eq.mpr c3;clear c3;obtain ⟨t184,A4,H⟩:=bnd H;(try dsimp only at H);obtain rfl:=oI H;go_enter Tryz.func69,Tryz.ntmps69;go_wp2_with (first | ((with_reducible refine gate_dst (N:=2) rfl ?_);refine bxA 2 #[.int .u64 a0_0,.int .u64 a0_1] 66 ?_;intro gb182 hg w5 hbox hb;have BK182:=Am (hbox);have GW182:=gW_ hg;have GE182:=gW_ hg;replace HB:=hb_ hb;clear hb hbox hg) | ((with_reducible refine gate_dst (N:=3) rfl ?_);refine bxA 3 #[.int .u64 a1_0,.int .u64 a1_1] 66 ?_;intro gb183 hg w6 hbox hb;have BK183:=Am (hbox);have GW183:=gW_ hg;have GE183:=gW_ hg;have NB182_183:=nA_ (g:=gb182) hg;have NB183_182:=nB_ (g:=gb182) hg;replace BK182:=kb_ (g:=gb182) hb;replace HB:=hb_ hb;clear hb hbox hg;have hnb7:=NB182_183.out;have hnc7:=NB183_182.out;obtain ⟨hcz8_0,hcz8_1,hfz8_0,hfz8_1⟩:=k2 BK182.out;obtain ⟨hcz9_0,hcz9_1,hfz9_0,hfz9_1⟩:=k2 BK183.out) | ((with_reducible refine gate_callee (f:=94) rfl ?_);refine goesL_ (some 19) rfl rfl Tryz.func94 (by kernel_rfl) rfl #[.int .u64 a0_1,.int .u64 a1_1] rfl aA ?_;(with_reducible refine (cmp_Compare_uint64.calls a0_1 a1_1 t184 _ A4.out).mono ?_);rintro e w' ⟨rfl,⟨nd,rfl⟩⟩;refine ⟨_,rfl,?_⟩))
  go_ret;exact eA
 ·rw [if_neg c3] at H;have c3b0 : (a0_0 == a1_0) = false:=beq_eq_false_iff_ne.mpr c3;have c3b1 : (a0_0 != a1_0) = true:=bne_iff_ne.mpr c3;obtain ⟨t185,A10,H⟩:=bnd H;(try dsimp only at H);obtain rfl:=oI H;go_enter Tryz.func69,Tryz.ntmps69;go_wp2_with (first | ((with_reducible refine gate_dst (N:=2) rfl ?_);refine bxA 2 #[.int .u64 a0_0,.int .u64 a0_1] 66 ?_;intro gb182 hg w11 hbox hb;have BK182:=Am (hbox);have GW182:=gW_ hg;have GE182:=gW_ hg;replace HB:=hb_ hb;clear hb hbox hg) | ((with_reducible refine gate_dst (N:=3) rfl ?_);refine bxA 3 #[.int .u64 a1_0,.int .u64 a1_1] 66 ?_;intro gb183 hg w12 hbox hb;have BK183:=Am (hbox);have GW183:=gW_ hg;have GE183:=gW_ hg;have NB182_183:=nA_ (g:=gb182) hg;have NB183_182:=nB_ (g:=gb182) hg;replace BK182:=kb_ (g:=gb182) hb;replace HB:=hb_ hb;clear hb hbox hg;have hnb13:=NB182_183.out;have hnc13:=NB183_182.out;obtain ⟨hcz14_0,hcz14_1,hfz14_0,hfz14_1⟩:=k2 BK182.out;obtain ⟨hcz15_0,hcz15_1,hfz15_0,hfz15_1⟩:=k2 BK183.out) | ((with_reducible refine gate_callee (f:=94) rfl ?_);refine goesL_ (some 14) rfl rfl Tryz.func94 (by kernel_rfl) rfl #[.int .u64 a0_0,.int .u64 a1_0] rfl aA ?_;(with_reducible refine (cmp_Compare_uint64.calls a0_0 a1_0 t185 _ A10.out).mono ?_);rintro e w' ⟨rfl,⟨nd,rfl⟩⟩;refine ⟨_,rfl,?_⟩))
  go_ret;exact eA

def config_asked_off.f (a0_0 : Int) (a0_1 : Int) (a0_2 : Int) (a0_3 : Int) (a0_4 : Int) (a0_5 : Int) (a0_6 : Int) (a0_7 : Int) : Option (Int):=(config_asked_bounds.f a0_0 a0_1 a0_2 a0_3 a0_4 a0_5 a0_6 a0_7).bind fun bt187 => ((wide_Times.f bt187.1 bt187.2.1 1000).bind fun bt193 => ((config_asked_bound.f a0_0 a0_1 a0_2 a0_3 a0_4 a0_5 a0_6 a0_7).bind fun t197 => ((config_asked_fairSize.f a0_0 a0_1 a0_2 a0_3 a0_4 a0_5 a0_6 a0_7).bind fun t198 => ((wide_Times.f bt187.2.2.1 bt187.2.2.2 (IntKind.u64.wrap (wrap64 ((wrap64 (a0_3 * t197)) + t198)))).bind fun bt199 => ((wide_Cmp.f bt193.1 bt193.2.1 bt199.1 bt199.2.1).bind fun t203 => (if t203 > 0 then (some 113) else (some 0)))))))
def config_asked_off.T3 : Bool × List (List Nat × List Nat):=(true,[([],[]),([],[]),([1],[1]),([2],[2]),([],[]),([4],[4]),([3,5],[3,5]),([],[]),([7,5],[7]),([6,8],[6,8]),([9],[9]),([0,10,8],[0,10]),([11],[11]),([12],[12]),([12],[12]),([],[]),([15,13,11,0,1,2,3,4,5,6,7,8,9,10,11,12,13,15],[13,15]),([14,16,0,1,2,3,4,5,6,7,8,9,10,11,12,13,14,15,16],[14])])
def config_asked_off.B3 : List Nat:=[0,0,2,6,0,16,62,0,176,510,1022,2047,4095,8191,8191,0,49151,131071]
theorem config_asked_off.tab3 : rtab .any (opsOf Tryz.f37 3) = config_asked_off.T3:=by kernel_rfl
theorem config_asked_off.bits3 : waitsOk config_asked_off.T3.2 config_asked_off.B3 = true:=by kernel_rfl
theorem config_asked_off.calls (a0_0 : Int) (a0_1 : Int) (a0_2 : Int) (a0_3 : Int) (a0_4 : Int) (a0_5 : Int) (a0_6 : Int) (a0_7 : Int) (r : Int) (w : World) (h : config_asked_off.f a0_0 a0_1 a0_2 a0_3 a0_4 a0_5 a0_6 a0_7 = some r) :
  Calls Tryz.prog 37 #[.agg #[.int .i64 a0_0,.int .i64 a0_1,.int .i64 a0_2,.int .i64 a0_3,.int .i64 a0_4,.int .i64 a0_5,.int .i64 a0_6,.int .i64 a0_7]] w fun e w' => e = .returned (.int .i64 r) ∧ Below w.heap.size w w':=by
 have hu73:=Tryz.underlying73;have hu66:=Tryz.underlying66;have HB:=Am (Below.refl w.heap.size w);have H : ((config_asked_bounds.f a0_0 a0_1 a0_2 a0_3 a0_4 a0_5 a0_6 a0_7).bind fun bt187 => ((wide_Times.f bt187.1 bt187.2.1 1000).bind fun bt193 => ((config_asked_bound.f a0_0 a0_1 a0_2 a0_3 a0_4 a0_5 a0_6 a0_7).bind fun t197 => ((config_asked_fairSize.f a0_0 a0_1 a0_2 a0_3 a0_4 a0_5 a0_6 a0_7).bind fun t198 => ((wide_Times.f bt187.2.2.1 bt187.2.2.2 (IntKind.u64.wrap (wrap64 ((wrap64 (a0_3 * t197)) + t198)))).bind fun bt199 => ((wide_Cmp.f bt193.1 bt193.2.1 bt199.1 bt199.2.1).bind fun t203 => (if t203 > 0 then (some 113) else (some 0)))))))) = some r:=h;clear h;obtain ⟨⟨t187,t188,t189,t190⟩,A2,H⟩:=bnd H;(try dsimp only at H);obtain ⟨⟨t193,t194,t195⟩,A3,H⟩:=bnd H;(try dsimp only at H);obtain ⟨t197,A4,H⟩:=bnd H;(try dsimp only at H);obtain ⟨t198,A5,H⟩:=bnd H;(try dsimp only at H);obtain ⟨⟨t199,t200,t201⟩,A6,H⟩:=bnd H;(try dsimp only at H);obtain ⟨t203,A7,H⟩:=bnd H;(try dsimp only at H);go_enter Tryz.func37,Tryz.ntmps37
 try go_wp2_with (first | ((with_reducible refine gate_dst (N:=1) rfl ?_);refine bxA 1 #[.int .i64 a0_0,.int .i64 a0_1,.int .i64 a0_2,.int .i64 a0_3,.int .i64 a0_4,.int .i64 a0_5,.int .i64 a0_6,.int .i64 a0_7] 73 ?_;intro gb186 hg w9 hbox hb;have BK186:=Am (hbox);have GW186:=gW_ hg;have GE186:=gW_ hg;replace HB:=hb_ hb;clear hb hbox hg;obtain ⟨hcz10_0,hcz10_1,hcz10_2,hcz10_3,hcz10_4,hcz10_5,hcz10_6,hcz10_7,hfz10_0,hfz10_1,hfz10_2,hfz10_3,hfz10_4,hfz10_5,hfz10_6,hfz10_7⟩:=k8 BK186.out) | ((with_reducible refine gate_callee (f:=66) rfl ?_);refine goesL_ (some 11) rfl rfl Tryz.func66 (by kernel_rfl) rfl #[.agg #[.int .i64 a0_0,.int .i64 a0_1,.int .i64 a0_2,.int .i64 a0_3,.int .i64 a0_4,.int .i64 a0_5,.int .i64 a0_6,.int .i64 a0_7]] rfl aA ?_;(with_reducible refine (config_asked_bounds.calls a0_0 a0_1 a0_2 a0_3 a0_4 a0_5 a0_6 a0_7 t187 t188 t189 t190 _ A2.out).mono ?_);rintro e w11 ⟨rfl,hb⟩;refine ⟨_,rfl,?_⟩;replace BK186:=kb_ (g:=gb186) hb;replace HB:=hb_ hb;(try clear hb)) | ((with_reducible refine gate_dst (N:=3) rfl ?_);refine bxA 3 #[.int .u64 0,.int .u64 0] 66 ?_;intro gb191 hg w12 hbox hb;have BK191:=Am (hbox);have GW191:=gW_ hg;have GE191:=gW_ hg;have NB186_191:=nA_ (g:=gb186) hg;have NB191_186:=nB_ (g:=gb186) hg;replace BK186:=kb_ (g:=gb186) hb;replace HB:=hb_ hb;clear hb hbox hg) | ((with_reducible refine gate_dst (N:=4) rfl ?_);refine bxA 4 #[.int .u64 0,.int .u64 0] 66 ?_;intro gb192 hg w13 hbox hb;have BK192:=Am (hbox);have GW192:=gW_ hg;have GE192:=gW_ hg;have NB186_192:=nA_ (g:=gb186) hg;have NB192_186:=nB_ (g:=gb186) hg;have NB191_192:=nA_ (g:=gb191) hg;have NB192_191:=nB_ (g:=gb191) hg;replace BK186:=kb_ (g:=gb186) hb;replace BK191:=kb_ (g:=gb191) hb;replace HB:=hb_ hb;clear hb hbox hg;have hnb14:=NB191_186.out;have hnc14:=NB186_191.out;have hnb15:=NB191_192.out;have hnc15:=NB192_191.out;obtain ⟨hcz16_0,hcz16_1,hfz16_0,hfz16_1⟩:=k2 BK191.out;have hnb17:=NB192_186.out;have hnc17:=NB186_192.out;obtain ⟨hcz18_0,hcz18_1,hfz18_0,hfz18_1⟩:=k2 BK192.out) | ((with_reducible refine gate_callee (f:=67) rfl ?_);refine goesL_ (some 16) rfl rfl Tryz.func67 (by kernel_rfl) rfl #[.agg #[.int .u64 t187,.int .u64 t188],.int .u64 1000] rfl aA ?_;(with_reducible refine (wide_Times.calls t187 t188 1000 t193 t194 t195 _ A3.out).mono ?_);rintro e w19 ⟨rfl,hb⟩;refine ⟨_,rfl,?_⟩;replace BK186:=Am (blk_below (g:=gb186) (o:=.cells #[.int .i64 a0_0,.int .i64 a0_1,.int .i64 a0_2,.int .i64 a0_3,.int .i64 a0_4,.int .i64 a0_5,.int .i64 a0_6,.int .i64 a0_7] 73 (0,0)) kF hb);replace BK191:=Am (blk_below (g:=gb191) (o:=.cells #[.int .u64 t187,.int .u64 t188] 66 (0,0)) (by (with_reducible repeat (first | refine b1 ?_ _ | refine b2 ?_ | refine b3 ?_ _));refine blk_far ?_ NB191_192.out _;(with_reducible repeat (first | refine b1 ?_ _ | refine b2 ?_ | refine b3 ?_ _));refine blk_far ?_ NB191_192.out _;(with_reducible repeat (first | refine b1 ?_ _ | refine b2 ?_ | refine b3 ?_ _));refine blk_put (cs:=#[.int .u64 t187,.int .u64 0]) ?_ 1 _ rfl;(with_reducible repeat (first | refine b1 ?_ _ | refine b2 ?_ | refine b3 ?_ _));refine blk_put (cs:=#[.int .u64 0,.int .u64 0]) ?_ 0 _ rfl;exact kA) hb);replace BK192:=Am (blk_below (g:=gb192) (o:=.cells #[.int .u64 t189,.int .u64 t190] 66 (0,0)) (by (with_reducible repeat (first | refine b1 ?_ _ | refine b2 ?_ | refine b3 ?_ _));refine blk_put (cs:=#[.int .u64 t189,.int .u64 0]) ?_ 1 _ rfl;(with_reducible repeat (first | refine b1 ?_ _ | refine b2 ?_ | refine b3 ?_ _));refine blk_put (cs:=#[.int .u64 0,.int .u64 0]) ?_ 0 _ rfl;(with_reducible repeat (first | refine b1 ?_ _ | refine b2 ?_ | refine b3 ?_ _));refine blk_far ?_ NB192_191.out _;(with_reducible repeat (first | refine b1 ?_ _ | refine b2 ?_ | refine b3 ?_ _));refine blk_far ?_ NB192_191.out _;exact kA) hb);replace HB:=hb_ hb;(try clear hb)) | ((with_reducible refine gate_dst (N:=5) rfl ?_);refine bxA 5 #[.int .u64 0,.int .u64 0] 66 ?_;intro gb196 hg w20 hbox hb;have BK196:=Am (hbox);have GW196:=gW_ hg;have GE196:=gW_ hg;have NB186_196:=nA_ (g:=gb186) hg;have NB196_186:=nB_ (g:=gb186) hg;have NB191_196:=nA_ (g:=gb191) hg;have NB196_191:=nB_ (g:=gb191) hg;have NB192_196:=nA_ (g:=gb192) hg;have NB196_192:=nB_ (g:=gb192) hg;replace BK186:=kb_ (g:=gb186) hb;replace BK191:=kb_ (g:=gb191) hb;replace BK192:=kb_ (g:=gb192) hb;replace HB:=hb_ hb;clear hb hbox hg;have hnb21:=NB196_186.out;have hnc21:=NB186_196.out;have hnb22:=NB196_191.out;have hnc22:=NB191_196.out;have hnb23:=NB196_192.out;have hnc23:=NB192_196.out;obtain ⟨hcz24_0,hcz24_1,hfz24_0,hfz24_1⟩:=k2 BK196.out))
 have n0_ : Aside0 (((w20.setCell ⟨gb196,0,none⟩ (.int .u64 t193)).setCell ⟨gb196,1,none⟩ (.int .u64 t194)).heap[gb186]? = some (.cells #[.int .i64 a0_0,.int .i64 a0_1,.int .i64 a0_2,.int .i64 a0_3,.int .i64 a0_4,.int .i64 a0_5,.int .i64 a0_6,.int .i64 a0_7] 73 (0,0))):=⟨kF⟩;have n1_ : Aside0 (((w20.setCell ⟨gb196,0,none⟩ (.int .u64 t193)).setCell ⟨gb196,1,none⟩ (.int .u64 t194)).heap[gb191]? = some (.cells #[.int .u64 t187,.int .u64 t188] 66 (0,0))):=⟨kF⟩;have n2_ : Aside0 (((w20.setCell ⟨gb196,0,none⟩ (.int .u64 t193)).setCell ⟨gb196,1,none⟩ (.int .u64 t194)).heap[gb192]? = some (.cells #[.int .u64 t189,.int .u64 t190] 66 (0,0))):=⟨kF⟩;have n3_ : Aside0 (((w20.setCell ⟨gb196,0,none⟩ (.int .u64 t193)).setCell ⟨gb196,1,none⟩ (.int .u64 t194)).heap[gb196]? = some (.cells #[.int .u64 t193,.int .u64 t194] 66 (0,0))):=⟨by (with_reducible repeat (first | refine b1 ?_ _ | refine b2 ?_ | refine b3 ?_ _));refine blk_put (cs:=#[.int .u64 t193,.int .u64 0]) ?_ 1 _ rfl;(with_reducible repeat (first | refine b1 ?_ _ | refine b2 ?_ | refine b3 ?_ _));refine blk_put (cs:=#[.int .u64 0,.int .u64 0]) ?_ 0 _ rfl;exact kA⟩;have n4_ : Aside0 (Below w.heap.size w ((w20.setCell ⟨gb196,0,none⟩ (.int .u64 t193)).setCell ⟨gb196,1,none⟩ (.int .u64 t194))):=⟨bA⟩
 (try clear BK186);(try clear BK191);(try clear BK192);(try clear BK196);(try clear HB)
 generalize ((w20.setCell ⟨gb196,0,none⟩ (.int .u64 t193)).setCell ⟨gb196,1,none⟩ (.int .u64 t194)) = w25 at n0_ n1_ n2_ n3_ n4_ ⊢;have BK186:=n0_;have BK191:=n1_;have BK192:=n2_;have BK196:=n3_;have HB:=n4_;clear n0_ n1_ n2_ n3_ n4_;replace BK186:=Am (blk_drew BK186.out);replace BK191:=Am (blk_drew BK191.out);replace BK192:=Am (blk_drew BK192.out);replace BK196:=Am (blk_drew BK196.out);replace HB:=Am (below_drew1 HB.out);refine start_ (n:=18) (S:=fun w' => w'.cell? ⟨gb192,0,none⟩ = some (.int .u64 t189) ∧ w'.cell? ⟨gb192,1,none⟩ = some (.int .u64 t190) ∧ w'.cell? ⟨gb186,0,none⟩ = some (.int .i64 a0_0) ∧ w'.cell? ⟨gb186,1,none⟩ = some (.int .i64 a0_1) ∧ w'.cell? ⟨gb186,2,none⟩ = some (.int .i64 a0_2) ∧ w'.cell? ⟨gb186,3,none⟩ = some (.int .i64 a0_3) ∧ w'.cell? ⟨gb186,4,none⟩ = some (.int .i64 a0_4) ∧ w'.cell? ⟨gb186,5,none⟩ = some (.int .i64 a0_5) ∧ w'.cell? ⟨gb186,6,none⟩ = some (.int .i64 a0_6) ∧ w'.cell? ⟨gb186,7,none⟩ = some (.int .i64 a0_7)) (ds:=[]) #[nn,nn,nn,nn,nn,nn,nn,nn,nn,nn,nn,nn,nn,nn,nn,nn,nn,nn] (by kernel_rfl) rfl rfl ⟨cl BK192.out 0,cl BK192.out 1,cl BK186.out 0,cl BK186.out 1,cl BK186.out 2,cl BK186.out 3,cl BK186.out 4,cl BK186.out 5,cl BK186.out 6,cl BK186.out 7⟩ (fun hHeld => ?_);refine with_tabW config_asked_off.tab3 config_asked_off.bits3 (fun HT_ HW_ => ?_);generalize w25.drew = w26 at BK186 BK191 BK192 BK196 HB hHeld ⊢;refine pu_ 1 (some 21) (bm 18 2) (any_of HT_.out (by kernel_rfl)) ?_;refine pu_ 2 (some 22) (bm 18 6) (any_of HT_.out (by kernel_rfl)) ?_;refine tk_ 0 (some 20) (bm 18 7) (take_ofW HT_.out HW_.out (by kernel_rfl)) hHeld ?_;refine tk_ 3 (some 23) (bm 18 15) (take_ofW HT_.out HW_.out (by kernel_rfl)) hHeld ?_;refine tk_ 4 (some 24) (bm 18 31) (take_ofW HT_.out HW_.out (by kernel_rfl)) hHeld ?_;refine tk_ 7 (some 27) (bm 18 159) (take_ofW HT_.out HW_.out (by kernel_rfl)) hHeld ?_;refine join_ (σ:=Nat) 2 (bm 18 65535) (fun s_ => [(25,.int .i64 t197),(28,.int .i64 t198),(31,.tuple #[.agg #[.int .u64 t199,.int .u64 t200],.bool t201]),(7,.pointer (some ⟨s_,0,none⟩)),(26,.int .i64 (wrap64 (a0_3 * t197))),(29,.int .i64 (wrap64 ((wrap64 (a0_3 * t197)) + t198))),(30,.int .u64 (IntKind.u64.wrap (wrap64 ((wrap64 (a0_3 * t197)) + t198)))),(19,.tuple #[.agg #[.int .u64 t199,.int .u64 t200],.bool t201]),(32,.agg #[.int .u64 t199,.int .u64 t200]),(33,.bool t201)]) (fun s_ w' => (w'.cell? ⟨gb192,0,none⟩ = some (.int .u64 t189) ∧ w'.cell? ⟨gb192,1,none⟩ = some (.int .u64 t190) ∧ w'.cell? ⟨gb186,0,none⟩ = some (.int .i64 a0_0) ∧ w'.cell? ⟨gb186,1,none⟩ = some (.int .i64 a0_1) ∧ w'.cell? ⟨gb186,2,none⟩ = some (.int .i64 a0_2) ∧ w'.cell? ⟨gb186,3,none⟩ = some (.int .i64 a0_3) ∧ w'.cell? ⟨gb186,4,none⟩ = some (.int .i64 a0_4) ∧ w'.cell? ⟨gb186,5,none⟩ = some (.int .i64 a0_5) ∧ w'.cell? ⟨gb186,6,none⟩ = some (.int .i64 a0_6) ∧ w'.cell? ⟨gb186,7,none⟩ = some (.int .i64 a0_7)) ∧ (w'.heap[gb186]? = some (.cells #[.int .i64 a0_0,.int .i64 a0_1,.int .i64 a0_2,.int .i64 a0_3,.int .i64 a0_4,.int .i64 a0_5,.int .i64 a0_6,.int .i64 a0_7] 73 (0,0))) ∧ (w'.heap[gb191]? = some (.cells #[.int .u64 t187,.int .u64 t188] 66 (0,0))) ∧ (w'.heap[gb192]? = some (.cells #[.int .u64 t189,.int .u64 t190] 66 (0,0))) ∧ (w'.heap[gb196]? = some (.cells #[.int .u64 t193,.int .u64 t194] 66 (0,0))) ∧ (w'.heap[s_]? = some (.cells #[.int .u64 0,.int .u64 0] 66 (0,0))) ∧ (w.heap.size ≤ s_) ∧ (w.heap.size ≤ s_) ∧ (gb186 ≠ s_) ∧ (s_ ≠ gb186) ∧ (gb191 ≠ s_) ∧ (s_ ≠ gb191) ∧ (gb192 ≠ s_) ∧ (s_ ≠ gb192) ∧ (gb196 ≠ s_) ∧ (s_ ≠ gb196) ∧ (Below w.heap.size w w')) ?_ ?_
 rotate_left
 ·intro hCont;refine two_ (i:=5) (j:=15) (Ni:=some 25) (Nj:=some 7) (bm 18 191) (bm 18 32927) rfl rfl rfl rfl (two_of HT_.out (by kernel_rfl)) (by decide) (by decide) (fun K hK => ?_) (fun K hK => ?_)
  ·skip;refine goes_ Tryz.func68 (by kernel_rfl) rfl #[.agg #[.int .i64 a0_0,.int .i64 a0_1,.int .i64 a0_2,.int .i64 a0_3,.int .i64 a0_4,.int .i64 a0_5,.int .i64 a0_6,.int .i64 a0_7]] (by rfl) rfl rfl aA ?_;with_reducible refine (config_asked_bound.calls a0_0 a0_1 a0_2 a0_3 a0_4 a0_5 a0_6 a0_7 t197 _ A4.out).mono ?_
   rintro e w27 ⟨rfl,hb⟩;refine ⟨_,rfl,?_⟩;replace BK186:=kb_ (g:=gb186) hb;replace BK191:=kb_ (g:=gb191) hb;replace BK192:=kb_ (g:=gb192) hb;replace BK196:=kb_ (g:=gb196) hb;replace HB:=hb_ hb;(try clear hb);refine hK.out _ _ ⟨cl BK192.out 0,cl BK192.out 1,cl BK186.out 0,cl BK186.out 1,cl BK186.out 2,cl BK186.out 3,cl BK186.out 4,cl BK186.out 5,cl BK186.out 6,cl BK186.out 7⟩ (fun hHeld => ?_);clear hK K;refine nm_ ?_;refine pu_ 6 (some 26) (bm 18 255) (any_of HT_.out (by kernel_rfl)) ?_;refine two_ (i:=8) (j:=15) (Ni:=some 28) (Nj:=some 7) (bm 18 511) (bm 18 33023) rfl rfl rfl rfl (two_of HT_.out (by kernel_rfl)) (by decide) (by decide) (fun K hK => ?_) (fun K hK => ?_)
   ·skip;refine goes_ Tryz.func65 (by kernel_rfl) rfl #[.agg #[.int .i64 a0_0,.int .i64 a0_1,.int .i64 a0_2,.int .i64 a0_3,.int .i64 a0_4,.int .i64 a0_5,.int .i64 a0_6,.int .i64 a0_7]] (by rfl) rfl rfl aA ?_;with_reducible refine (config_asked_fairSize.calls a0_0 a0_1 a0_2 a0_3 a0_4 a0_5 a0_6 a0_7 t198 _ A5.out).mono ?_
    rintro e w28 ⟨rfl,hb⟩;refine ⟨_,rfl,?_⟩;replace BK186:=kb_ (g:=gb186) hb;replace BK191:=kb_ (g:=gb191) hb;replace BK192:=kb_ (g:=gb192) hb;replace BK196:=kb_ (g:=gb196) hb;replace HB:=hb_ hb;(try clear hb);refine hK.out _ _ ⟨cl BK192.out 0,cl BK192.out 1,cl BK186.out 0,cl BK186.out 1,cl BK186.out 2,cl BK186.out 3,cl BK186.out 4,cl BK186.out 5,cl BK186.out 6,cl BK186.out 7⟩ (fun hHeld => ?_);clear hK K;refine nm_ ?_;refine pu_ 9 (some 29) (bm 18 1023) (any_of HT_.out (by kernel_rfl)) ?_;refine pu_ 10 (some 30) (bm 18 2047) (any_of HT_.out (by kernel_rfl)) ?_;refine two_ (i:=11) (j:=15) (Ni:=some 31) (Nj:=some 7) (bm 18 4095) (bm 18 34815) rfl rfl rfl rfl (two_of HT_.out (by kernel_rfl)) (by decide) (by decide) (fun K hK => ?_) (fun K hK => ?_)
    ·skip;refine goes_ Tryz.func67 (by kernel_rfl) rfl #[.agg #[.int .u64 t189,.int .u64 t190],.int .u64 (IntKind.u64.wrap (wrap64 ((wrap64 (a0_3 * t197)) + t198)))] (by rfl) rfl rfl aA ?_;with_reducible refine (wide_Times.calls t189 t190 (IntKind.u64.wrap (wrap64 ((wrap64 (a0_3 * t197)) + t198))) t199 t200 t201 _ A6.out).mono ?_
     rintro e w29 ⟨rfl,hb⟩;refine ⟨_,rfl,?_⟩;replace BK186:=kb_ (g:=gb186) hb;replace BK191:=kb_ (g:=gb191) hb;replace BK192:=kb_ (g:=gb192) hb;replace BK196:=kb_ (g:=gb196) hb;replace HB:=hb_ hb;(try clear hb);refine hK.out _ _ ⟨cl BK192.out 0,cl BK192.out 1,cl BK186.out 0,cl BK186.out 1,cl BK186.out 2,cl BK186.out 3,cl BK186.out 4,cl BK186.out 5,cl BK186.out 6,cl BK186.out 7⟩ (fun hHeld => ?_);clear hK K;refine nm_ ?_;refine pu_ 12 (some 19) (bm 18 8191) (any_of HT_.out (by kernel_rfl)) ?_;refine pu_ 13 (some 32) (bm 18 16383) (any_of HT_.out (by kernel_rfl)) ?_;refine pu_ 14 (some 33) (bm 18 32767) (any_of HT_.out (by kernel_rfl)) ?_;refine one_ (i:=15) (N:=some 7) (bm 18 65535) rfl rfl (one_of HT_.out (by kernel_rfl)) (by decide) (fun K hK => ?_);refine box_step ?hg (N:=7) ?hd (cs:=#[.int .u64 0,.int .u64 0]) (t:=66) ?hr ?_;(case hd => rfl);(case hg => rfl);(case hr => first | (go_simp;done) | (go_simp;rfl));intro gb202 hg w30 hbox hb;have BK202:=Am (hbox);have GW202:=gW_ hg;have GE202:=gW_ hg;have NB186_202:=nA_ (g:=gb186) hg;have NB202_186:=nB_ (g:=gb186) hg;have NB191_202:=nA_ (g:=gb191) hg;have NB202_191:=nB_ (g:=gb191) hg;have NB192_202:=nA_ (g:=gb192) hg;have NB202_192:=nB_ (g:=gb192) hg;have NB196_202:=nA_ (g:=gb196) hg;have NB202_196:=nB_ (g:=gb196) hg;replace BK186:=kb_ (g:=gb186) hb;replace BK191:=kb_ (g:=gb191) hb;replace BK192:=kb_ (g:=gb192) hb;replace BK196:=kb_ (g:=gb196) hb;replace HB:=hb_ hb;clear hb hbox hg;refine hK.out _ _ ⟨cl BK192.out 0,cl BK192.out 1,cl BK186.out 0,cl BK186.out 1,cl BK186.out 2,cl BK186.out 3,cl BK186.out 4,cl BK186.out 5,cl BK186.out 6,cl BK186.out 7⟩ (fun hHeld => ?_);clear hK K;refine nm_ ?_;exact norm_ (by simp only [putAll,Act.put,List.setIfInBounds_toArray,List.set_cons_zero,List.set_cons_succ]) (hCont (gb202) _ ⟨hHeld,kA,kA,kA,kA,kA,GW202.out,GE202.out,NB186_202.out,NB202_186.out,NB191_202.out,NB202_191.out,NB192_202.out,NB202_192.out,NB196_202.out,NB202_196.out,bA⟩)
    ·skip;refine box_step ?hg (N:=7) ?hd (cs:=#[.int .u64 0,.int .u64 0]) (t:=66) ?hr ?_;(case hd => rfl);(case hg => rfl);(case hr => first | (go_simp;done) | (go_simp;rfl));intro gb202 hg w29 hbox hb;have BK202:=Am (hbox);have GW202:=gW_ hg;have GE202:=gW_ hg;have NB186_202:=nA_ (g:=gb186) hg;have NB202_186:=nB_ (g:=gb186) hg;have NB191_202:=nA_ (g:=gb191) hg;have NB202_191:=nB_ (g:=gb191) hg;have NB192_202:=nA_ (g:=gb192) hg;have NB202_192:=nB_ (g:=gb192) hg;have NB196_202:=nA_ (g:=gb196) hg;have NB202_196:=nB_ (g:=gb196) hg;replace BK186:=kb_ (g:=gb186) hb;replace BK191:=kb_ (g:=gb191) hb;replace BK192:=kb_ (g:=gb192) hb;replace BK196:=kb_ (g:=gb196) hb;replace HB:=hb_ hb;clear hb hbox hg;refine hK.out _ _ ⟨cl BK192.out 0,cl BK192.out 1,cl BK186.out 0,cl BK186.out 1,cl BK186.out 2,cl BK186.out 3,cl BK186.out 4,cl BK186.out 5,cl BK186.out 6,cl BK186.out 7⟩ (fun hHeld => ?_);clear hK K;refine nm_ ?_;refine one_ (i:=11) (N:=some 31) (bm 18 36863) rfl rfl (one_of HT_.out (by kernel_rfl)) (by decide) (fun K hK => ?_);refine goes_ Tryz.func67 (by kernel_rfl) rfl #[.agg #[.int .u64 t189,.int .u64 t190],.int .u64 (IntKind.u64.wrap (wrap64 ((wrap64 (a0_3 * t197)) + t198)))] (by rfl) rfl rfl aA ?_;with_reducible refine (wide_Times.calls t189 t190 (IntKind.u64.wrap (wrap64 ((wrap64 (a0_3 * t197)) + t198))) t199 t200 t201 _ A6.out).mono ?_
     rintro e w30 ⟨rfl,hb⟩;refine ⟨_,rfl,?_⟩;replace BK186:=kb_ (g:=gb186) hb;replace BK191:=kb_ (g:=gb191) hb;replace BK192:=kb_ (g:=gb192) hb;replace BK196:=kb_ (g:=gb196) hb;replace BK202:=kb_ (g:=gb202) hb;replace HB:=hb_ hb;(try clear hb);refine hK.out _ _ ⟨cl BK192.out 0,cl BK192.out 1,cl BK186.out 0,cl BK186.out 1,cl BK186.out 2,cl BK186.out 3,cl BK186.out 4,cl BK186.out 5,cl BK186.out 6,cl BK186.out 7⟩ (fun hHeld => ?_);clear hK K;refine nm_ ?_;refine pu_ 12 (some 19) (bm 18 40959) (any_of HT_.out (by kernel_rfl)) ?_;refine pu_ 13 (some 32) (bm 18 49151) (any_of HT_.out (by kernel_rfl)) ?_;refine pu_ 14 (some 33) (bm 18 65535) (any_of HT_.out (by kernel_rfl)) ?_;exact norm_ (by simp only [putAll,Act.put,List.setIfInBounds_toArray,List.set_cons_zero,List.set_cons_succ]) (hCont (gb202) _ ⟨hHeld,kA,kA,kA,kA,kA,GW202.out,GE202.out,NB186_202.out,NB202_186.out,NB191_202.out,NB202_191.out,NB192_202.out,NB202_192.out,NB196_202.out,NB202_196.out,bA⟩)
   ·skip;refine box_step ?hg (N:=7) ?hd (cs:=#[.int .u64 0,.int .u64 0]) (t:=66) ?hr ?_;(case hd => rfl);(case hg => rfl);(case hr => first | (go_simp;done) | (go_simp;rfl));intro gb202 hg w28 hbox hb;have BK202:=Am (hbox);have GW202:=gW_ hg;have GE202:=gW_ hg;have NB186_202:=nA_ (g:=gb186) hg;have NB202_186:=nB_ (g:=gb186) hg;have NB191_202:=nA_ (g:=gb191) hg;have NB202_191:=nB_ (g:=gb191) hg;have NB192_202:=nA_ (g:=gb192) hg;have NB202_192:=nB_ (g:=gb192) hg;have NB196_202:=nA_ (g:=gb196) hg;have NB202_196:=nB_ (g:=gb196) hg;replace BK186:=kb_ (g:=gb186) hb;replace BK191:=kb_ (g:=gb191) hb;replace BK192:=kb_ (g:=gb192) hb;replace BK196:=kb_ (g:=gb196) hb;replace HB:=hb_ hb;clear hb hbox hg;refine hK.out _ _ ⟨cl BK192.out 0,cl BK192.out 1,cl BK186.out 0,cl BK186.out 1,cl BK186.out 2,cl BK186.out 3,cl BK186.out 4,cl BK186.out 5,cl BK186.out 6,cl BK186.out 7⟩ (fun hHeld => ?_);clear hK K;refine nm_ ?_;refine one_ (i:=8) (N:=some 28) (bm 18 33279) rfl rfl (one_of HT_.out (by kernel_rfl)) (by decide) (fun K hK => ?_);refine goes_ Tryz.func65 (by kernel_rfl) rfl #[.agg #[.int .i64 a0_0,.int .i64 a0_1,.int .i64 a0_2,.int .i64 a0_3,.int .i64 a0_4,.int .i64 a0_5,.int .i64 a0_6,.int .i64 a0_7]] (by rfl) rfl rfl aA ?_;with_reducible refine (config_asked_fairSize.calls a0_0 a0_1 a0_2 a0_3 a0_4 a0_5 a0_6 a0_7 t198 _ A5.out).mono ?_
    rintro e w29 ⟨rfl,hb⟩;refine ⟨_,rfl,?_⟩;replace BK186:=kb_ (g:=gb186) hb;replace BK191:=kb_ (g:=gb191) hb;replace BK192:=kb_ (g:=gb192) hb;replace BK196:=kb_ (g:=gb196) hb;replace BK202:=kb_ (g:=gb202) hb;replace HB:=hb_ hb;(try clear hb);refine hK.out _ _ ⟨cl BK192.out 0,cl BK192.out 1,cl BK186.out 0,cl BK186.out 1,cl BK186.out 2,cl BK186.out 3,cl BK186.out 4,cl BK186.out 5,cl BK186.out 6,cl BK186.out 7⟩ (fun hHeld => ?_);clear hK K;refine nm_ ?_;refine pu_ 9 (some 29) (bm 18 33791) (any_of HT_.out (by kernel_rfl)) ?_;refine pu_ 10 (some 30) (bm 18 34815) (any_of HT_.out (by kernel_rfl)) ?_;refine one_ (i:=11) (N:=some 31) (bm 18 36863) rfl rfl (one_of HT_.out (by kernel_rfl)) (by decide) (fun K hK => ?_);refine goes_ Tryz.func67 (by kernel_rfl) rfl #[.agg #[.int .u64 t189,.int .u64 t190],.int .u64 (IntKind.u64.wrap (wrap64 ((wrap64 (a0_3 * t197)) + t198)))] (by rfl) rfl rfl aA ?_;with_reducible refine (wide_Times.calls t189 t190 (IntKind.u64.wrap (wrap64 ((wrap64 (a0_3 * t197)) + t198))) t199 t200 t201 _ A6.out).mono ?_
    rintro e w30 ⟨rfl,hb⟩;refine ⟨_,rfl,?_⟩;replace BK186:=kb_ (g:=gb186) hb;replace BK191:=kb_ (g:=gb191) hb;replace BK192:=kb_ (g:=gb192) hb;replace BK196:=kb_ (g:=gb196) hb;replace BK202:=kb_ (g:=gb202) hb;replace HB:=hb_ hb;(try clear hb);refine hK.out _ _ ⟨cl BK192.out 0,cl BK192.out 1,cl BK186.out 0,cl BK186.out 1,cl BK186.out 2,cl BK186.out 3,cl BK186.out 4,cl BK186.out 5,cl BK186.out 6,cl BK186.out 7⟩ (fun hHeld => ?_);clear hK K;refine nm_ ?_;refine pu_ 12 (some 19) (bm 18 40959) (any_of HT_.out (by kernel_rfl)) ?_;refine pu_ 13 (some 32) (bm 18 49151) (any_of HT_.out (by kernel_rfl)) ?_;refine pu_ 14 (some 33) (bm 18 65535) (any_of HT_.out (by kernel_rfl)) ?_;exact norm_ (by simp only [putAll,Act.put,List.setIfInBounds_toArray,List.set_cons_zero,List.set_cons_succ]) (hCont (gb202) _ ⟨hHeld,kA,kA,kA,kA,kA,GW202.out,GE202.out,NB186_202.out,NB202_186.out,NB191_202.out,NB202_191.out,NB192_202.out,NB202_192.out,NB196_202.out,NB202_196.out,bA⟩)
  ·skip;refine box_step ?hg (N:=7) ?hd (cs:=#[.int .u64 0,.int .u64 0]) (t:=66) ?hr ?_;(case hd => rfl);(case hg => rfl);(case hr => first | (go_simp;done) | (go_simp;rfl));intro gb202 hg w27 hbox hb;have BK202:=Am (hbox);have GW202:=gW_ hg;have GE202:=gW_ hg;have NB186_202:=nA_ (g:=gb186) hg;have NB202_186:=nB_ (g:=gb186) hg;have NB191_202:=nA_ (g:=gb191) hg;have NB202_191:=nB_ (g:=gb191) hg;have NB192_202:=nA_ (g:=gb192) hg;have NB202_192:=nB_ (g:=gb192) hg;have NB196_202:=nA_ (g:=gb196) hg;have NB202_196:=nB_ (g:=gb196) hg;replace BK186:=kb_ (g:=gb186) hb;replace BK191:=kb_ (g:=gb191) hb;replace BK192:=kb_ (g:=gb192) hb;replace BK196:=kb_ (g:=gb196) hb;replace HB:=hb_ hb;clear hb hbox hg;refine hK.out _ _ ⟨cl BK192.out 0,cl BK192.out 1,cl BK186.out 0,cl BK186.out 1,cl BK186.out 2,cl BK186.out 3,cl BK186.out 4,cl BK186.out 5,cl BK186.out 6,cl BK186.out 7⟩ (fun hHeld => ?_);clear hK K;refine nm_ ?_;refine one_ (i:=5) (N:=some 25) (bm 18 32959) rfl rfl (one_of HT_.out (by kernel_rfl)) (by decide) (fun K hK => ?_);refine goes_ Tryz.func68 (by kernel_rfl) rfl #[.agg #[.int .i64 a0_0,.int .i64 a0_1,.int .i64 a0_2,.int .i64 a0_3,.int .i64 a0_4,.int .i64 a0_5,.int .i64 a0_6,.int .i64 a0_7]] (by rfl) rfl rfl aA ?_;with_reducible refine (config_asked_bound.calls a0_0 a0_1 a0_2 a0_3 a0_4 a0_5 a0_6 a0_7 t197 _ A4.out).mono ?_
   rintro e w28 ⟨rfl,hb⟩;refine ⟨_,rfl,?_⟩;replace BK186:=kb_ (g:=gb186) hb;replace BK191:=kb_ (g:=gb191) hb;replace BK192:=kb_ (g:=gb192) hb;replace BK196:=kb_ (g:=gb196) hb;replace BK202:=kb_ (g:=gb202) hb;replace HB:=hb_ hb;(try clear hb);refine hK.out _ _ ⟨cl BK192.out 0,cl BK192.out 1,cl BK186.out 0,cl BK186.out 1,cl BK186.out 2,cl BK186.out 3,cl BK186.out 4,cl BK186.out 5,cl BK186.out 6,cl BK186.out 7⟩ (fun hHeld => ?_);clear hK K;refine nm_ ?_;refine pu_ 6 (some 26) (bm 18 33023) (any_of HT_.out (by kernel_rfl)) ?_;refine one_ (i:=8) (N:=some 28) (bm 18 33279) rfl rfl (one_of HT_.out (by kernel_rfl)) (by decide) (fun K hK => ?_);refine goes_ Tryz.func65 (by kernel_rfl) rfl #[.agg #[.int .i64 a0_0,.int .i64 a0_1,.int .i64 a0_2,.int .i64 a0_3,.int .i64 a0_4,.int .i64 a0_5,.int .i64 a0_6,.int .i64 a0_7]] (by rfl) rfl rfl aA ?_;with_reducible refine (config_asked_fairSize.calls a0_0 a0_1 a0_2 a0_3 a0_4 a0_5 a0_6 a0_7 t198 _ A5.out).mono ?_
   rintro e w29 ⟨rfl,hb⟩;refine ⟨_,rfl,?_⟩;replace BK186:=kb_ (g:=gb186) hb;replace BK191:=kb_ (g:=gb191) hb;replace BK192:=kb_ (g:=gb192) hb;replace BK196:=kb_ (g:=gb196) hb;replace BK202:=kb_ (g:=gb202) hb;replace HB:=hb_ hb;(try clear hb);refine hK.out _ _ ⟨cl BK192.out 0,cl BK192.out 1,cl BK186.out 0,cl BK186.out 1,cl BK186.out 2,cl BK186.out 3,cl BK186.out 4,cl BK186.out 5,cl BK186.out 6,cl BK186.out 7⟩ (fun hHeld => ?_);clear hK K;refine nm_ ?_;refine pu_ 9 (some 29) (bm 18 33791) (any_of HT_.out (by kernel_rfl)) ?_;refine pu_ 10 (some 30) (bm 18 34815) (any_of HT_.out (by kernel_rfl)) ?_;refine one_ (i:=11) (N:=some 31) (bm 18 36863) rfl rfl (one_of HT_.out (by kernel_rfl)) (by decide) (fun K hK => ?_);refine goes_ Tryz.func67 (by kernel_rfl) rfl #[.agg #[.int .u64 t189,.int .u64 t190],.int .u64 (IntKind.u64.wrap (wrap64 ((wrap64 (a0_3 * t197)) + t198)))] (by rfl) rfl rfl aA ?_;with_reducible refine (wide_Times.calls t189 t190 (IntKind.u64.wrap (wrap64 ((wrap64 (a0_3 * t197)) + t198))) t199 t200 t201 _ A6.out).mono ?_
   rintro e w30 ⟨rfl,hb⟩;refine ⟨_,rfl,?_⟩;replace BK186:=kb_ (g:=gb186) hb;replace BK191:=kb_ (g:=gb191) hb;replace BK192:=kb_ (g:=gb192) hb;replace BK196:=kb_ (g:=gb196) hb;replace BK202:=kb_ (g:=gb202) hb;replace HB:=hb_ hb;(try clear hb);refine hK.out _ _ ⟨cl BK192.out 0,cl BK192.out 1,cl BK186.out 0,cl BK186.out 1,cl BK186.out 2,cl BK186.out 3,cl BK186.out 4,cl BK186.out 5,cl BK186.out 6,cl BK186.out 7⟩ (fun hHeld => ?_);clear hK K;refine nm_ ?_;refine pu_ 12 (some 19) (bm 18 40959) (any_of HT_.out (by kernel_rfl)) ?_;refine pu_ 13 (some 32) (bm 18 49151) (any_of HT_.out (by kernel_rfl)) ?_;refine pu_ 14 (some 33) (bm 18 65535) (any_of HT_.out (by kernel_rfl)) ?_;exact norm_ (by simp only [putAll,Act.put,List.setIfInBounds_toArray,List.set_cons_zero,List.set_cons_succ]) (hCont (gb202) _ ⟨hHeld,kA,kA,kA,kA,kA,GW202.out,GE202.out,NB186_202.out,NB202_186.out,NB191_202.out,NB202_191.out,NB192_202.out,NB202_192.out,NB196_202.out,NB202_196.out,bA⟩)
 rintro gb202 w31 ⟨hS_,h0_,h1_,h2_,h3_,h4_,h5_,h6_,h7_,h8_,h9_,h10_,h11_,h12_,h13_,h14_,h15_⟩;replace BK186:=Am h0_;replace BK191:=Am h1_;replace BK192:=Am h2_;replace BK196:=Am h3_;have BK202:=Am h4_;have GW202:=Am h5_;have GE202:=Am h6_;have NB186_202:=Am h7_;have NB202_186:=Am h8_;have NB191_202:=Am h9_;have NB202_191:=Am h10_;have NB192_202:=Am h11_;have NB202_192:=Am h12_;have NB196_202:=Am h13_;have NB202_196:=Am h14_;replace HB:=Am h15_;clear h0_ h1_ h2_ h3_ h4_ h5_ h6_ h7_ h8_ h9_ h10_ h11_ h12_ h13_ h14_ h15_;have hHeld:=hS_;refine norm_ (a':=?_) ?_ ?_
 rotate_left
 ·simp only [putAll,Act.put,List.setIfInBounds_toArray,List.set_cons_zero,List.set_cons_succ];rfl
 refine one_ (i:=16) (N:=none) (bm 18 131071) rfl rfl (one_of HT_.out (by kernel_rfl)) (by decide) (fun K hK => ?_);have hs32 : w31.cell? ⟨gb202,0,none⟩ = some (.int .u64 0):=(blk_cell BK202.out 0).trans rfl;have hfs32:=blk_frozen BK202.out 0;have hns32_0:=NB186_202.out;have hns32_1:=NB191_202.out;have hns32_2:=NB192_202.out;have hns32_3:=NB196_202.out;have hms32_0:=NB202_186.out;have hms32_1:=NB202_191.out;have hms32_2:=NB202_192.out;have hms32_3:=NB202_196.out;have hs33 : w31.cell? ⟨gb202,1,none⟩ = some (.int .u64 0):=(blk_cell BK202.out 1).trans rfl;have hfs33:=blk_frozen BK202.out 1;have hns33_0:=NB186_202.out;have hns33_1:=NB191_202.out;have hns33_2:=NB192_202.out;have hns33_3:=NB196_202.out;have hms33_0:=NB202_186.out;have hms33_1:=NB202_191.out;have hms33_2:=NB202_192.out;have hms33_3:=NB202_196.out;refine skip_ (w1:=?_) (by rfl) rfl ?_ ?_
 rotate_left
 ·go_simp;rfl
 refine hK.out _ _ ⟨((cell_far (p:=⟨gb202,_,none⟩) NB192_202.out _).trans (((cell_far (p:=⟨gb202,_,none⟩) NB192_202.out _).trans (hHeld.1)))),((cell_far (p:=⟨gb202,_,none⟩) NB192_202.out _).trans (((cell_far (p:=⟨gb202,_,none⟩) NB192_202.out _).trans (hHeld.2.1)))),((cell_far (p:=⟨gb202,_,none⟩) NB186_202.out _).trans (((cell_far (p:=⟨gb202,_,none⟩) NB186_202.out _).trans (hHeld.2.2.1)))),((cell_far (p:=⟨gb202,_,none⟩) NB186_202.out _).trans (((cell_far (p:=⟨gb202,_,none⟩) NB186_202.out _).trans (hHeld.2.2.2.1)))),((cell_far (p:=⟨gb202,_,none⟩) NB186_202.out _).trans (((cell_far (p:=⟨gb202,_,none⟩) NB186_202.out _).trans (hHeld.2.2.2.2.1)))),((cell_far (p:=⟨gb202,_,none⟩) NB186_202.out _).trans (((cell_far (p:=⟨gb202,_,none⟩) NB186_202.out _).trans (hHeld.2.2.2.2.2.1)))),((cell_far (p:=⟨gb202,_,none⟩) NB186_202.out _).trans (((cell_far (p:=⟨gb202,_,none⟩) NB186_202.out _).trans (hHeld.2.2.2.2.2.2.1)))),((cell_far (p:=⟨gb202,_,none⟩) NB186_202.out _).trans (((cell_far (p:=⟨gb202,_,none⟩) NB186_202.out _).trans (hHeld.2.2.2.2.2.2.2.1)))),((cell_far (p:=⟨gb202,_,none⟩) NB186_202.out _).trans (((cell_far (p:=⟨gb202,_,none⟩) NB186_202.out _).trans (hHeld.2.2.2.2.2.2.2.2.1)))),((cell_far (p:=⟨gb202,_,none⟩) NB186_202.out _).trans (((cell_far (p:=⟨gb202,_,none⟩) NB186_202.out _).trans (hHeld.2.2.2.2.2.2.2.2.2))))⟩ (fun hHeld => ?_);clear hK K;refine pu_ 17 (some 8) (bm 18 262143) (any_of HT_.out (by kernel_rfl)) ?_;refine done_ (done_of HT_.out (by kernel_rfl)) ?_;have hnb34:=NB196_202.out;have hnc34:=NB202_196.out;obtain ⟨hcz35_0,hcz35_1,hfz35_0,hfz35_1⟩:=k2 BK196.out;have hnb36:=NB202_186.out;have hnc36:=NB186_202.out;have hnb37:=NB202_191.out;have hnc37:=NB191_202.out;have hnb38:=NB202_192.out;have hnc38:=NB192_202.out;obtain ⟨hcz39_0,hcz39_1,hfz39_0,hfz39_1⟩:=k2 BK202.out
 by_cases c8 : t203 > 0
 ·rw [if_pos c8] at H;have c8b0 : decide (0 < t203) = true:=dT c8;clear c8;obtain rfl:=oI H
  try go_wp2_with (first | ((with_reducible refine gate_callee (f:=69) rfl ?_);refine goesL_ (some 36) rfl rfl Tryz.func69 (by kernel_rfl) rfl #[.agg #[.int .u64 t193,.int .u64 t194],.agg #[.int .u64 t199,.int .u64 t200]] rfl aA ?_;(with_reducible refine (wide_Cmp.calls t193 t194 t199 t200 t203 _ A7.out).mono ?_);rintro e w40 ⟨rfl,hb⟩;refine ⟨_,rfl,?_⟩;replace BK186:=Am (blk_below (g:=gb186) (o:=.cells #[.int .i64 a0_0,.int .i64 a0_1,.int .i64 a0_2,.int .i64 a0_3,.int .i64 a0_4,.int .i64 a0_5,.int .i64 a0_6,.int .i64 a0_7] 73 (0,0)) kF hb);replace BK191:=Am (blk_below (g:=gb191) (o:=.cells #[.int .u64 t187,.int .u64 t188] 66 (0,0)) kF hb);replace BK192:=Am (blk_below (g:=gb192) (o:=.cells #[.int .u64 t189,.int .u64 t190] 66 (0,0)) kF hb);replace BK196:=Am (blk_below (g:=gb196) (o:=.cells #[.int .u64 t193,.int .u64 t194] 66 (0,0)) kF hb);replace BK202:=Am (blk_below (g:=gb202) (o:=.cells #[.int .u64 t199,.int .u64 t200] 66 (0,0)) (by (with_reducible repeat (first | refine b1 ?_ _ | refine b2 ?_ | refine b3 ?_ _));refine blk_put (cs:=#[.int .u64 t199,.int .u64 0]) ?_ 1 _ rfl;(with_reducible repeat (first | refine b1 ?_ _ | refine b2 ?_ | refine b3 ?_ _));refine blk_put (cs:=#[.int .u64 0,.int .u64 0]) ?_ 0 _ rfl;exact kA) hb);replace HB:=hb_ hb;(try clear hb)))
  go_ret;exact eA
 ·rw [if_neg c8] at H;have c8b0 : decide (0 < t203) = false:=dF c8;clear c8;obtain rfl:=oI H
  try go_wp2_with (first | ((with_reducible refine gate_callee (f:=69) rfl ?_);refine goesL_ (some 36) rfl rfl Tryz.func69 (by kernel_rfl) rfl #[.agg #[.int .u64 t193,.int .u64 t194],.agg #[.int .u64 t199,.int .u64 t200]] rfl aA ?_;(with_reducible refine (wide_Cmp.calls t193 t194 t199 t200 t203 _ A7.out).mono ?_);rintro e w40 ⟨rfl,hb⟩;refine ⟨_,rfl,?_⟩;replace BK186:=Am (blk_below (g:=gb186) (o:=.cells #[.int .i64 a0_0,.int .i64 a0_1,.int .i64 a0_2,.int .i64 a0_3,.int .i64 a0_4,.int .i64 a0_5,.int .i64 a0_6,.int .i64 a0_7] 73 (0,0)) kF hb);replace BK191:=Am (blk_below (g:=gb191) (o:=.cells #[.int .u64 t187,.int .u64 t188] 66 (0,0)) kF hb);replace BK192:=Am (blk_below (g:=gb192) (o:=.cells #[.int .u64 t189,.int .u64 t190] 66 (0,0)) kF hb);replace BK196:=Am (blk_below (g:=gb196) (o:=.cells #[.int .u64 t193,.int .u64 t194] 66 (0,0)) kF hb);replace BK202:=Am (blk_below (g:=gb202) (o:=.cells #[.int .u64 t199,.int .u64 t200] 66 (0,0)) (by (with_reducible repeat (first | refine b1 ?_ _ | refine b2 ?_ | refine b3 ?_ _));refine blk_put (cs:=#[.int .u64 t199,.int .u64 0]) ?_ 1 _ rfl;(with_reducible repeat (first | refine b1 ?_ _ | refine b2 ?_ | refine b3 ?_ _));refine blk_put (cs:=#[.int .u64 0,.int .u64 0]) ?_ 0 _ rfl;exact kA) hb);replace HB:=hb_ hb;(try clear hb)))
  go_ret;exact eA

end Go.Proofs.YtodibpddlibneaaGreatDoor.GSH
