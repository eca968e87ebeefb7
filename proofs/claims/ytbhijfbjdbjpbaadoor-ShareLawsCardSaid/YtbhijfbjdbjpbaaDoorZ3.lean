/- The texts of this claim, put together by program, what it does not name left out: part 3. Conditions: each theorem's own. -/
import Derived.Test.YtbhijfbjdbjpbaaDoorZ2
namespace Go.Proofs.YtbhijfbjdbjpbaaDoor.GSH
open Go.RowKit Go.Proofs.YtbhijfbjdbjpbaaDoorW.PrintWords Go.Proofs.YtbhijfbjdbjpbaaDoorW.PrintLast Go.Proofs.YtbhijfbjdbjpbaaDoorW.PrintMore
attribute [local go_sem] max2_int min2_int max_two min_two max_three min_three max_four min_four   -- for this text's walks alone
set_option linter.unusedVariables false
set_option linter.unusedSimpArgs false
mutual
def bits_Div64.j2 : Nat → Int → Int → Int → Int → Int → Int → Int → Int → Option (Int × Int)
 | 0,_,_,_,_,_,_,_,_ => none
 | k + 1,x2,x8,x9,x10,x11,x13,x14,x15 => if x9 = 0 then (none) else (bits_Div64.l1 k x2 x8 x9 x10 x14 x15 (IntKind.u64.wrap ((IntKind.u64.wrap ((IntKind.u64.wrap ((IntKind.u64.wrap (x11 * 4294967296)) + x13)) - (IntKind.u64.wrap (x15 * x2)))) - (IntKind.u64.wrap ((IntKind.u64.wrap (Int.tdiv (IntKind.u64.wrap ((IntKind.u64.wrap ((IntKind.u64.wrap (x11 * 4294967296)) + x13)) - (IntKind.u64.wrap (x15 * x2)))) x9)) * x9)))) (IntKind.u64.wrap ((IntKind.u64.wrap ((IntKind.u64.wrap (x11 * 4294967296)) + x13)) - (IntKind.u64.wrap (x15 * x2)))) (IntKind.u64.wrap (Int.tdiv (IntKind.u64.wrap ((IntKind.u64.wrap ((IntKind.u64.wrap (x11 * 4294967296)) + x13)) - (IntKind.u64.wrap (x15 * x2)))) x9)))
def bits_Div64.l1 : Nat → Int → Int → Int → Int → Int → Int → Int → Int → Int → Option (Int × Int)
 | 0,_,_,_,_,_,_,_,_,_ => none
 | k + 1,x2,x8,x9,x10,x14,x15,x16,x17,x18 => if x18 ≥ 4294967296 then (bits_Div64.j4 k x2 x8 x9 x10 x14 x15 x16 x17 x18 true) else (bits_Div64.j4 k x2 x8 x9 x10 x14 x15 x16 x17 x18 (decide ((IntKind.u64.wrap (x18 * x10)) > (IntKind.u64.wrap ((IntKind.u64.wrap (4294967296 * x16)) + x14)))))
def bits_Div64.j4 : Nat → Int → Int → Int → Int → Int → Int → Int → Int → Int → Bool → Option (Int × Int)
 | 0,_,_,_,_,_,_,_,_,_,_ => none
 | k + 1,x2,x8,x9,x10,x14,x15,x16,x17,x18,x113 => if x113 = true then (if (IntKind.u64.wrap (x16 + x9)) ≥ 4294967296 then (if 0 ≤ x8 then (some (IntKind.u64.wrap ((IntKind.u64.wrap (x15 * 4294967296)) + (IntKind.u64.wrap (x18 - 1))),shr .u64 (IntKind.u64.wrap ((IntKind.u64.wrap ((IntKind.u64.wrap (x17 * 4294967296)) + x14)) - (IntKind.u64.wrap ((IntKind.u64.wrap (x18 - 1)) * x2)))) x8)) else (none)) else (bits_Div64.l1 k x2 x8 x9 x10 x14 x15 (IntKind.u64.wrap (x16 + x9)) x17 (IntKind.u64.wrap (x18 - 1)))) else (if 0 ≤ x8 then (some (IntKind.u64.wrap ((IntKind.u64.wrap (x15 * 4294967296)) + x18),shr .u64 (IntKind.u64.wrap ((IntKind.u64.wrap ((IntKind.u64.wrap (x17 * 4294967296)) + x14)) - (IntKind.u64.wrap (x18 * x2)))) x8)) else (none))
def bits_Div64.l0 : Nat → Int → Int → Int → Int → Int → Int → Int → Int → Int → Option (Int × Int)
 | 0,_,_,_,_,_,_,_,_,_ => none
 | k + 1,x2,x8,x9,x10,x11,x13,x14,x15,x16 => if x15 ≥ 4294967296 then (bits_Div64.j1 k x2 x8 x9 x10 x11 x13 x14 x15 x16 true) else (bits_Div64.j1 k x2 x8 x9 x10 x11 x13 x14 x15 x16 (decide ((IntKind.u64.wrap (x15 * x10)) > (IntKind.u64.wrap ((IntKind.u64.wrap (4294967296 * x16)) + x13)))))
def bits_Div64.j1 : Nat → Int → Int → Int → Int → Int → Int → Int → Int → Int → Bool → Option (Int × Int)
 | 0,_,_,_,_,_,_,_,_,_,_ => none
 | k + 1,x2,x8,x9,x10,x11,x13,x14,x15,x16,x78 => if x78 = true then (if (IntKind.u64.wrap (x16 + x9)) ≥ 4294967296 then (bits_Div64.j2 k x2 x8 x9 x10 x11 x13 x14 (IntKind.u64.wrap (x15 - 1))) else (bits_Div64.l0 k x2 x8 x9 x10 x11 x13 x14 (IntKind.u64.wrap (x15 - 1)) (IntKind.u64.wrap (x16 + x9)))) else (bits_Div64.j2 k x2 x8 x9 x10 x11 x13 x14 x15)
end
def bits_Div64.f (k : Nat) (a0 : Int) (a1 : Int) (a2 : Int) : Option (Int × Int):=if a2 = 0 then (none) else (if a2 ≤ a0 then (none) else (if a0 = 0 then (some (IntKind.u64.wrap (Int.tdiv a1 a2),Int.tmod a1 a2)) else ((bits_LeadingZeros64.f k a2).bind fun t207 => (if 0 ≤ (IntKind.u64.wrap (t207)) then (if 0 ≤ (IntKind.u64.wrap (64 - (IntKind.u64.wrap (t207)))) then (if ((shl .u64 a2 (IntKind.u64.wrap (t207))) / 4294967296) = 0 then (none) else (bits_Div64.l0 k (shl .u64 a2 (IntKind.u64.wrap (t207))) (IntKind.u64.wrap (t207)) ((shl .u64 a2 (IntKind.u64.wrap (t207))) / 4294967296) (Go.bits .and .u64 (shl .u64 a2 (IntKind.u64.wrap (t207))) 4294967295) (Go.bits .or .u64 (shl .u64 a0 (IntKind.u64.wrap (t207))) (shr .u64 a1 (IntKind.u64.wrap (64 - (IntKind.u64.wrap (t207)))))) ((shl .u64 a1 (IntKind.u64.wrap (t207))) / 4294967296) (Go.bits .and .u64 (shl .u64 a1 (IntKind.u64.wrap (t207))) 4294967295) (IntKind.u64.wrap (Int.tdiv (Go.bits .or .u64 (shl .u64 a0 (IntKind.u64.wrap (t207))) (shr .u64 a1 (IntKind.u64.wrap (64 - (IntKind.u64.wrap (t207)))))) ((shl .u64 a2 (IntKind.u64.wrap (t207))) / 4294967296))) (IntKind.u64.wrap ((Go.bits .or .u64 (shl .u64 a0 (IntKind.u64.wrap (t207))) (shr .u64 a1 (IntKind.u64.wrap (64 - (IntKind.u64.wrap (t207)))))) - (IntKind.u64.wrap ((IntKind.u64.wrap (Int.tdiv (Go.bits .or .u64 (shl .u64 a0 (IntKind.u64.wrap (t207))) (shr .u64 a1 (IntKind.u64.wrap (64 - (IntKind.u64.wrap (t207)))))) ((shl .u64 a2 (IntKind.u64.wrap (t207))) / 4294967296))) * ((shl .u64 a2 (IntKind.u64.wrap (t207))) / 4294967296))))))) else (none)) else (none)))))
set_option maxHeartbeats 8000000 in
set_option maxRecDepth 100000 in
theorem bits_Div64.calls (k : Nat) (a0 : Int) (a1 : Int) (a2 : Int) (r1 : Int) (r2 : Int) (w : World) (h : bits_Div64.f k a0 a1 a2 = some (r1,r2)) :
  Calls Tryd.prog 69 #[.int .u64 a0,.int .u64 a1,.int .u64 a2] w fun e w' => e = .returned (.tuple #[.int .u64 r1,.int .u64 r2]) ∧ Drawn0 w w':=by
 have H : (if a2 = 0 then (none) else (if a2 ≤ a0 then (none) else (if a0 = 0 then (some (IntKind.u64.wrap (Int.tdiv a1 a2),Int.tmod a1 a2)) else ((bits_LeadingZeros64.f k a2).bind fun t207 => (if 0 ≤ (IntKind.u64.wrap (t207)) then (if 0 ≤ (IntKind.u64.wrap (64 - (IntKind.u64.wrap (t207)))) then (if ((shl .u64 a2 (IntKind.u64.wrap (t207))) / 4294967296) = 0 then (none) else (bits_Div64.l0 k (shl .u64 a2 (IntKind.u64.wrap (t207))) (IntKind.u64.wrap (t207)) ((shl .u64 a2 (IntKind.u64.wrap (t207))) / 4294967296) (Go.bits .and .u64 (shl .u64 a2 (IntKind.u64.wrap (t207))) 4294967295) (Go.bits .or .u64 (shl .u64 a0 (IntKind.u64.wrap (t207))) (shr .u64 a1 (IntKind.u64.wrap (64 - (IntKind.u64.wrap (t207)))))) ((shl .u64 a1 (IntKind.u64.wrap (t207))) / 4294967296) (Go.bits .and .u64 (shl .u64 a1 (IntKind.u64.wrap (t207))) 4294967295) (IntKind.u64.wrap (Int.tdiv (Go.bits .or .u64 (shl .u64 a0 (IntKind.u64.wrap (t207))) (shr .u64 a1 (IntKind.u64.wrap (64 - (IntKind.u64.wrap (t207)))))) ((shl .u64 a2 (IntKind.u64.wrap (t207))) / 4294967296))) (IntKind.u64.wrap ((Go.bits .or .u64 (shl .u64 a0 (IntKind.u64.wrap (t207))) (shr .u64 a1 (IntKind.u64.wrap (64 - (IntKind.u64.wrap (t207)))))) - (IntKind.u64.wrap ((IntKind.u64.wrap (Int.tdiv (Go.bits .or .u64 (shl .u64 a0 (IntKind.u64.wrap (t207))) (shr .u64 a1 (IntKind.u64.wrap (64 - (IntKind.u64.wrap (t207)))))) ((shl .u64 a2 (IntKind.u64.wrap (t207))) / 4294967296))) * ((shl .u64 a2 (IntKind.u64.wrap (t207))) / 4294967296))))))) else (none)) else (none)))))) = some (r1,r2):=h
 clear h
 by_cases c4 : a2 = 0
 ·rw [if_pos c4] at H
  exact absurd H (by simp)
 ·rw [if_neg c4] at H
  have c4b0 : (a2 == 0) = false:=beq_eq_false_iff_ne.mpr c4
  have c4b1 : (a2 != 0) = true:=bne_iff_ne.mpr c4
  by_cases c5 : a2 ≤ a0
  ·rw [if_pos c5] at H
   exact absurd H (by simp)
  ·rw [if_neg c5] at H
   have c5b0 : decide (a2 ≤ a0) = false:=decide_eq_false c5
   clear c5
   by_cases c6 : a0 = 0
   ·rw [if_pos c6] at H
    have c6b0 : (a0 == 0) = true:=beq_iff_eq.mpr c6
    have c6b1 : (a0 != 0) = false:=bne_eq_false_iff_eq.mpr c6
    clear c6
    simp only [Option.some.injEq,Prod.mk.injEq] at H
    obtain ⟨rfl,rfl⟩:=H
    go_enter Tryd.func69,Tryd.ntmps69
    go_wp2
    repeat (go_quiet (fail);try go_wp2)
    go_ret2
    exact ⟨by first | rfl | (simp;done) | (simp [*];done),by repeat (first | exact Drawn0.refl _ | apply Drawn0.step)⟩
   ·rw [if_neg c6] at H
    have c6b0 : (a0 == 0) = false:=beq_eq_false_iff_ne.mpr c6
    have c6b1 : (a0 != 0) = true:=bne_iff_ne.mpr c6
    replace H:=Option.bind_eq_some_iff.mp H;obtain ⟨t207,A70,H⟩:=H;replace H : (if 0 ≤ (IntKind.u64.wrap (t207)) then (if 0 ≤ (IntKind.u64.wrap (64 - (IntKind.u64.wrap (t207)))) then (if ((shl .u64 a2 (IntKind.u64.wrap (t207))) / 4294967296) = 0 then (none) else (bits_Div64.l0 k (shl .u64 a2 (IntKind.u64.wrap (t207))) (IntKind.u64.wrap (t207)) ((shl .u64 a2 (IntKind.u64.wrap (t207))) / 4294967296) (Go.bits .and .u64 (shl .u64 a2 (IntKind.u64.wrap (t207))) 4294967295) (Go.bits .or .u64 (shl .u64 a0 (IntKind.u64.wrap (t207))) (shr .u64 a1 (IntKind.u64.wrap (64 - (IntKind.u64.wrap (t207)))))) ((shl .u64 a1 (IntKind.u64.wrap (t207))) / 4294967296) (Go.bits .and .u64 (shl .u64 a1 (IntKind.u64.wrap (t207))) 4294967295) (IntKind.u64.wrap (Int.tdiv (Go.bits .or .u64 (shl .u64 a0 (IntKind.u64.wrap (t207))) (shr .u64 a1 (IntKind.u64.wrap (64 - (IntKind.u64.wrap (t207)))))) ((shl .u64 a2 (IntKind.u64.wrap (t207))) / 4294967296))) (IntKind.u64.wrap ((Go.bits .or .u64 (shl .u64 a0 (IntKind.u64.wrap (t207))) (shr .u64 a1 (IntKind.u64.wrap (64 - (IntKind.u64.wrap (t207)))))) - (IntKind.u64.wrap ((IntKind.u64.wrap (Int.tdiv (Go.bits .or .u64 (shl .u64 a0 (IntKind.u64.wrap (t207))) (shr .u64 a1 (IntKind.u64.wrap (64 - (IntKind.u64.wrap (t207)))))) ((shl .u64 a2 (IntKind.u64.wrap (t207))) / 4294967296))) * ((shl .u64 a2 (IntKind.u64.wrap (t207))) / 4294967296))))))) else (none)) else (none)) = some (r1,r2):=H;have A7:=Aside0.mk A70;clear A70
    obtain ⟨ji8,hji8⟩ : ∃ j_ : Int,(IntKind.u64.wrap (t207)) = j_:=⟨_,rfl⟩
    replace H : (if 0 ≤ (ji8) then (if 0 ≤ (IntKind.u64.wrap (64 - (ji8))) then (if ((shl .u64 a2 (ji8)) / 4294967296) = 0 then (none) else (bits_Div64.l0 k (shl .u64 a2 (ji8)) ji8 ((shl .u64 a2 (ji8)) / 4294967296) (Go.bits .and .u64 (shl .u64 a2 (ji8)) 4294967295) (Go.bits .or .u64 (shl .u64 a0 (ji8)) (shr .u64 a1 (IntKind.u64.wrap (64 - (ji8))))) ((shl .u64 a1 (ji8)) / 4294967296) (Go.bits .and .u64 (shl .u64 a1 (ji8)) 4294967295) (IntKind.u64.wrap (Int.tdiv (Go.bits .or .u64 (shl .u64 a0 (ji8)) (shr .u64 a1 (IntKind.u64.wrap (64 - (ji8))))) ((shl .u64 a2 (ji8)) / 4294967296))) (IntKind.u64.wrap ((Go.bits .or .u64 (shl .u64 a0 (ji8)) (shr .u64 a1 (IntKind.u64.wrap (64 - (ji8))))) - (IntKind.u64.wrap ((IntKind.u64.wrap (Int.tdiv (Go.bits .or .u64 (shl .u64 a0 (ji8)) (shr .u64 a1 (IntKind.u64.wrap (64 - (ji8))))) ((shl .u64 a2 (ji8)) / 4294967296))) * ((shl .u64 a2 (ji8)) / 4294967296))))))) else (none)) else (none)) = some (r1,r2):=by first | (rw [hji8] at H;exact H) | (simp only [hji8] at H ⊢;exact H)
    (try rw [hji8] at A7)
    by_cases c9 : 0 ≤ (ji8)
    ·rw [if_pos c9] at H
     have c9b0:=eq_true c9
     have c9b1 : decide (0 ≤ (ji8)) = true:=decide_eq_true c9
     clear c9
     obtain ⟨ji10,hji10⟩ : ∃ j_ : Int,(shl .u64 a2 (ji8)) = j_:=⟨_,rfl⟩
     replace H : (if 0 ≤ (IntKind.u64.wrap (64 - (ji8))) then (if ((ji10) / 4294967296) = 0 then (none) else (bits_Div64.l0 k ji10 ji8 ((ji10) / 4294967296) (Go.bits .and .u64 (ji10) 4294967295) (Go.bits .or .u64 (shl .u64 a0 (ji8)) (shr .u64 a1 (IntKind.u64.wrap (64 - (ji8))))) ((shl .u64 a1 (ji8)) / 4294967296) (Go.bits .and .u64 (shl .u64 a1 (ji8)) 4294967295) (IntKind.u64.wrap (Int.tdiv (Go.bits .or .u64 (shl .u64 a0 (ji8)) (shr .u64 a1 (IntKind.u64.wrap (64 - (ji8))))) ((ji10) / 4294967296))) (IntKind.u64.wrap ((Go.bits .or .u64 (shl .u64 a0 (ji8)) (shr .u64 a1 (IntKind.u64.wrap (64 - (ji8))))) - (IntKind.u64.wrap ((IntKind.u64.wrap (Int.tdiv (Go.bits .or .u64 (shl .u64 a0 (ji8)) (shr .u64 a1 (IntKind.u64.wrap (64 - (ji8))))) ((ji10) / 4294967296))) * ((ji10) / 4294967296))))))) else (none)) = some (r1,r2):=by first | (rw [hji10] at H;exact H) | (simp only [hji10] at H ⊢;exact H)
     (try rw [hji10] at A7)
     have hji10_ : (IntKind.u64.wrap (a2 * 2 ^ min (ji8).toNat 64)) = ji10:=hji10
     have hji10z : (ji8) ≤ 64 → (IntKind.u64.wrap (a2 * 2 ^ (ji8).toNat)) = ji10:=shl_small hji10
     have c11b0:=eq_true (of_decide_eq_true (by first | (with_reducible assumption) | assumption) : 0 ≤ (ji8))
     obtain ⟨ji12,hji12⟩ : ∃ j_ : Int,(shl .u64 a0 (ji8)) = j_:=⟨_,rfl⟩
     replace H : (if 0 ≤ (IntKind.u64.wrap (64 - (ji8))) then (if ((ji10) / 4294967296) = 0 then (none) else (bits_Div64.l0 k ji10 ji8 ((ji10) / 4294967296) (Go.bits .and .u64 (ji10) 4294967295) (Go.bits .or .u64 (ji12) (shr .u64 a1 (IntKind.u64.wrap (64 - (ji8))))) ((shl .u64 a1 (ji8)) / 4294967296) (Go.bits .and .u64 (shl .u64 a1 (ji8)) 4294967295) (IntKind.u64.wrap (Int.tdiv (Go.bits .or .u64 (ji12) (shr .u64 a1 (IntKind.u64.wrap (64 - (ji8))))) ((ji10) / 4294967296))) (IntKind.u64.wrap ((Go.bits .or .u64 (ji12) (shr .u64 a1 (IntKind.u64.wrap (64 - (ji8))))) - (IntKind.u64.wrap ((IntKind.u64.wrap (Int.tdiv (Go.bits .or .u64 (ji12) (shr .u64 a1 (IntKind.u64.wrap (64 - (ji8))))) ((ji10) / 4294967296))) * ((ji10) / 4294967296))))))) else (none)) = some (r1,r2):=by first | (rw [hji12] at H;exact H) | (simp only [hji12] at H ⊢;exact H)
     (try rw [hji12] at A7)
     have hji12_ : (IntKind.u64.wrap (a0 * 2 ^ min (ji8).toNat 64)) = ji12:=hji12
     have hji12z : (ji8) ≤ 64 → (IntKind.u64.wrap (a0 * 2 ^ (ji8).toNat)) = ji12:=shl_small hji12
     obtain ⟨ji13,hji13⟩ : ∃ j_ : Int,(IntKind.u64.wrap (64 - (ji8))) = j_:=⟨_,rfl⟩
     replace H : (if 0 ≤ (ji13) then (if ((ji10) / 4294967296) = 0 then (none) else (bits_Div64.l0 k ji10 ji8 ((ji10) / 4294967296) (Go.bits .and .u64 (ji10) 4294967295) (Go.bits .or .u64 (ji12) (shr .u64 a1 (ji13))) ((shl .u64 a1 (ji8)) / 4294967296) (Go.bits .and .u64 (shl .u64 a1 (ji8)) 4294967295) (IntKind.u64.wrap (Int.tdiv (Go.bits .or .u64 (ji12) (shr .u64 a1 (ji13))) ((ji10) / 4294967296))) (IntKind.u64.wrap ((Go.bits .or .u64 (ji12) (shr .u64 a1 (ji13))) - (IntKind.u64.wrap ((IntKind.u64.wrap (Int.tdiv (Go.bits .or .u64 (ji12) (shr .u64 a1 (ji13))) ((ji10) / 4294967296))) * ((ji10) / 4294967296))))))) else (none)) = some (r1,r2):=by first | (rw [hji13] at H;exact H) | (simp only [hji13] at H ⊢;exact H)
     (try rw [hji13] at A7)
     by_cases c14 : 0 ≤ (ji13)
     ·rw [if_pos c14] at H
      have c14b0:=eq_true c14
      have c14b1 : decide (0 ≤ (ji13)) = true:=decide_eq_true c14
      clear c14
      obtain ⟨ji15,hji15⟩ : ∃ j_ : Int,(shr .u64 a1 (ji13)) = j_:=⟨_,rfl⟩
      replace H : (if ((ji10) / 4294967296) = 0 then (none) else (bits_Div64.l0 k ji10 ji8 ((ji10) / 4294967296) (Go.bits .and .u64 (ji10) 4294967295) (Go.bits .or .u64 (ji12) (ji15)) ((shl .u64 a1 (ji8)) / 4294967296) (Go.bits .and .u64 (shl .u64 a1 (ji8)) 4294967295) (IntKind.u64.wrap (Int.tdiv (Go.bits .or .u64 (ji12) (ji15)) ((ji10) / 4294967296))) (IntKind.u64.wrap ((Go.bits .or .u64 (ji12) (ji15)) - (IntKind.u64.wrap ((IntKind.u64.wrap (Int.tdiv (Go.bits .or .u64 (ji12) (ji15)) ((ji10) / 4294967296))) * ((ji10) / 4294967296))))))) = some (r1,r2):=by first | (rw [hji15] at H;exact H) | (simp only [hji15] at H ⊢;exact H)
      (try rw [hji15] at A7)
      have hji15_ : (a1 / 2 ^ min (ji13).toNat 64) = ji15:=hji15
      have hji15z : (ji13) ≤ 64 → (a1 / 2 ^ (ji13).toNat) = ji15:=shr_small hji15
      have c16b0:=eq_true (of_decide_eq_true (by first | (with_reducible assumption) | assumption) : 0 ≤ (ji8))
      obtain ⟨ji17,hji17⟩ : ∃ j_ : Int,(shl .u64 a1 (ji8)) = j_:=⟨_,rfl⟩
      replace H : (if ((ji10) / 4294967296) = 0 then (none) else (bits_Div64.l0 k ji10 ji8 ((ji10) / 4294967296) (Go.bits .and .u64 (ji10) 4294967295) (Go.bits .or .u64 (ji12) (ji15)) ((ji17) / 4294967296) (Go.bits .and .u64 (ji17) 4294967295) (IntKind.u64.wrap (Int.tdiv (Go.bits .or .u64 (ji12) (ji15)) ((ji10) / 4294967296))) (IntKind.u64.wrap ((Go.bits .or .u64 (ji12) (ji15)) - (IntKind.u64.wrap ((IntKind.u64.wrap (Int.tdiv (Go.bits .or .u64 (ji12) (ji15)) ((ji10) / 4294967296))) * ((ji10) / 4294967296))))))) = some (r1,r2):=by first | (rw [hji17] at H;exact H) | (simp only [hji17] at H ⊢;exact H)
      (try rw [hji17] at A7)
      have hji17_ : (IntKind.u64.wrap (a1 * 2 ^ min (ji8).toNat 64)) = ji17:=hji17
      have hji17z : (ji8) ≤ 64 → (IntKind.u64.wrap (a1 * 2 ^ (ji8).toNat)) = ji17:=shl_small hji17
      by_cases c18 : ((ji10) / 4294967296) = 0
      ·rw [if_pos c18] at H
       exact absurd H (by simp)
      ·rw [if_neg c18] at H
       have c18b0 : (((ji10) / 4294967296) == 0) = false:=beq_eq_false_iff_ne.mpr c18
       have c18b1 : (((ji10) / 4294967296) != 0) = true:=bne_iff_ne.mpr c18
       have HC19:=Aside0.mk H
       clear H
       go_enter Tryd.func69,Tryd.ntmps69
       go_upto_block 0 with (first | (go_at_call 82;(with_reducible refine (bits_LeadingZeros64.calls k a2 t207 _ A7.out).mono ?_);rintro e w' ⟨rfl,⟨nd,rfl⟩⟩;(try first | exact ⟨rfl,_,World.drewN_drewN _ _ _⟩ | exact ⟨rfl,_,Eq.trans (World.drewN_drewN _ _ _) (congrArg (World.drewN _) (Nat.add_assoc _ _ _))⟩)))
       repeat (go_quiet (first | (go_at_call 82;(with_reducible refine (bits_LeadingZeros64.calls k a2 t207 _ A7.out).mono ?_);rintro e w' ⟨rfl,⟨nd,rfl⟩⟩;(try first | exact ⟨rfl,_,World.drewN_drewN _ _ _⟩ | exact ⟨rfl,_,Eq.trans (World.drewN_drewN _ _ _) (congrArg (World.drewN _) (Nat.add_assoc _ _ _))⟩)));go_upto_block 0 with (first | (go_at_call 82;(with_reducible refine (bits_LeadingZeros64.calls k a2 t207 _ A7.out).mono ?_);rintro e w' ⟨rfl,⟨nd,rfl⟩⟩;(try first | exact ⟨rfl,_,World.drewN_drewN _ _ _⟩ | exact ⟨rfl,_,Eq.trans (World.drewN_drewN _ _ _) (congrArg (World.drewN _) (Nat.add_assoc _ _ _))⟩))))
       (try simp only [Act.put,List.setIfInBounds_toArray,List.set_cons_zero,List.set_cons_succ])
       go_cut [15] (fun v15 wc => ∃ (kq : Nat) (x15_18 : Int),v15 = .int .u64 x15_18 ∧ Aside0 (bits_Div64.j2 kq ji10 ji8 ((ji10) / 4294967296) (Go.bits .and .u64 (ji10) 4294967295) (Go.bits .or .u64 (ji12) (ji15)) ((ji17) / 4294967296) (Go.bits .and .u64 (ji17) 4294967295) x15_18 = some (r1,r2)) ∧ Aside0 (kq ≤ k) ∧ Drawn0 w wc)
       case first =>
        have H:=HC19.out
        clear HC19
        have H':=Aside0.mk H
        clear H
        go_wp2
        repeat (go_quiet (fail);try go_wp2)
        go_loopg [15,16] k (fun kq v15 v16 w' => ∃ (x15_1 : Int) (x16_1 : Int),v15 = .int .u64 x15_1 ∧ v16 = .int .u64 x16_1 ∧ Aside0 (bits_Div64.l0 kq ji10 ji8 ((ji10) / 4294967296) (Go.bits .and .u64 (ji10) 4294967295) (Go.bits .or .u64 (ji12) (ji15)) ((ji17) / 4294967296) (Go.bits .and .u64 (ji17) 4294967295) x15_1 x16_1 = some (r1,r2)) ∧ Aside0 (kq ≤ k) ∧ Drawn0 w w')
        case atStart => exact ⟨(IntKind.u64.wrap (Int.tdiv (Go.bits .or .u64 (ji12) (ji15)) ((ji10) / 4294967296))),(IntKind.u64.wrap ((Go.bits .or .u64 (ji12) (ji15)) - (IntKind.u64.wrap ((IntKind.u64.wrap (Int.tdiv (Go.bits .or .u64 (ji12) (ji15)) ((ji10) / 4294967296))) * ((ji10) / 4294967296))))),(by first | rfl | (simp;done) | (simp only [← hji10,← hji12,← hji15] <;> (first | rfl | simp)) | (simp [*];done)),(by first | rfl | (simp;done) | (simp only [← hji10,← hji12,← hji15] <;> (first | rfl | simp)) | (simp [*];done)),H',⟨Nat.le_refl _⟩,by repeat (first | exact Drawn0.refl _ | apply Drawn0.step)⟩
        case round =>
         clear H'
         try clear c1
         try clear p2
         try clear c4
         try clear c4b0
         try clear c4b1
         try clear c5
         try clear c5b0
         try clear c6
         try clear c6b0
         try clear c6b1
         try clear c9
         try clear c9b0
         try clear c9b1
         try clear c11
         try clear c11b0
         try clear c14
         try clear c14b0
         try clear c14b1
         try clear c16
         try clear c16b0
         try clear c18
         try clear c18b0
         try clear c18b1
         obtain ⟨x15_1,x16_1,rfl,rfl,HA,HK1,⟨m1,rfl⟩⟩:=hrel
         cases gk with
         | zero => exact absurd HA.out (by simp [bits_Div64.l0])
         | succ k1 =>
          have H:=HA.out
          clear HA
          simp only [bits_Div64.l0] at H
          have HC20:=Aside0.mk H
          clear H
          go_upto_region 17 with (fail)
          repeat (go_quiet (fail);go_upto_region 17 with (fail))
          go_cut [78] (fun v78 wc => ∃ (kq : Nat) (x78_19 : Bool),v78 = .bool x78_19 ∧ Aside0 (bits_Div64.j1 kq ji10 ji8 ((ji10) / 4294967296) (Go.bits .and .u64 (ji10) 4294967295) (Go.bits .or .u64 (ji12) (ji15)) ((ji17) / 4294967296) (Go.bits .and .u64 (ji17) 4294967295) x15_1 x16_1 x78_19 = some (r1,r2)) ∧ Aside0 (kq ≤ k1) ∧ Drawn0 w wc)
          case first =>
           have H:=HC20.out
           clear HC20
           by_cases c21 : x15_1 ≥ 4294967296
           ·rw [if_pos c21] at H
            have c21b0 : decide (4294967296 ≤ x15_1) = true:=decide_eq_true c21
            clear c21
            (first | rw [c21b0] | (simp only [i64_w,i32_w];rw [c21b0]) | skip)
            have H':=Aside0.mk H
            clear H
            go_wp2
            repeat (go_quiet (fail);try go_wp2)
            go_meet
            case rel => exact ⟨_,(true),(by first | rfl | (simp;done) | (simp [*];done)),H',⟨by have:=HK1.out;first | omega | exact Nat.le_refl _⟩,by repeat (first | exact Drawn0.refl _ | apply Drawn0.step)⟩
           ·rw [if_neg c21] at H
            have c21b0 : decide (4294967296 ≤ x15_1) = false:=decide_eq_false c21
            clear c21
            (first | rw [c21b0] | (simp only [i64_w,i32_w];rw [c21b0]) | skip)
            have H':=Aside0.mk H
            clear H
            go_wp2
            repeat (go_quiet (fail);try go_wp2)
            go_meet
            case rel => exact ⟨_,(decide ((IntKind.u64.wrap (x15_1 * (Go.bits .and .u64 (ji10) 4294967295))) > (IntKind.u64.wrap ((IntKind.u64.wrap (4294967296 * x16_1)) + ((ji17) / 4294967296))))),(by first | rfl | (simp;done) | (simp only [← hji10,← hji17] <;> (first | rfl | simp)) | (simp [*];done)),H',⟨by have:=HK1.out;first | omega | exact Nat.le_refl _⟩,by repeat (first | exact Drawn0.refl _ | apply Drawn0.step)⟩
          case rest =>
           clear HC20
           try clear c1
           try clear c2
           try clear p2
           try clear c4
           try clear c4b0
           try clear c4b1
           try clear c5
           try clear c5b0
           try clear c6
           try clear c6b0
           try clear c6b1
           try clear c9
           try clear c9b0
           try clear c9b1
           try clear c11
           try clear c11b0
           try clear c14
           try clear c14b0
           try clear c14b1
           try clear c16
           try clear c16b0
           try clear c18
           try clear c18b0
           try clear c18b1
           try clear c21
           try clear c21b0
           try clear p2
           obtain ⟨kq,x78_19,rfl,HA,HJ19,⟨mc19,rfl⟩⟩:=hcut
           cases kq with
           | zero => exact absurd HA.out (by simp [bits_Div64.j1])
           | succ kj19 =>
            have H:=HA.out
            clear HA
            simp only [bits_Div64.j1] at H
            by_cases c22 : x78_19 = true
            ·subst c22
             have H1 : (if (IntKind.u64.wrap (x16_1 + ((ji10) / 4294967296))) ≥ 4294967296 then (bits_Div64.j2 kj19 ji10 ji8 ((ji10) / 4294967296) (Go.bits .and .u64 (ji10) 4294967295) (Go.bits .or .u64 (ji12) (ji15)) ((ji17) / 4294967296) (Go.bits .and .u64 (ji17) 4294967295) (IntKind.u64.wrap (x15_1 - 1))) else (bits_Div64.l0 kj19 ji10 ji8 ((ji10) / 4294967296) (Go.bits .and .u64 (ji10) 4294967295) (Go.bits .or .u64 (ji12) (ji15)) ((ji17) / 4294967296) (Go.bits .and .u64 (ji17) 4294967295) (IntKind.u64.wrap (x15_1 - 1)) (IntKind.u64.wrap (x16_1 + ((ji10) / 4294967296))))) = some (r1,r2):=by rw [if_pos rfl] at H;exact H
             clear H
             have H:=H1
             clear H1
             by_cases c23 : (IntKind.u64.wrap (x16_1 + ((ji10) / 4294967296))) ≥ 4294967296
             ·rw [if_pos c23] at H
              have c23b0 : decide (4294967296 ≤ (IntKind.u64.wrap (x16_1 + ((ji10) / 4294967296)))) = true:=decide_eq_true c23
              clear c23
              have H':=Aside0.mk H
              clear H
              go_wp2
              repeat (go_quiet (fail);try go_wp2)
              go_meet
              case rel => exact ⟨_,(IntKind.u64.wrap (x15_1 - 1)),(by first | rfl | (simp;done) | (simp [*];done)),H',⟨by have:=HK1.out;have:=HJ19.out;first | omega | exact Nat.le_refl _⟩,by repeat (first | exact Drawn0.refl _ | apply Drawn0.step)⟩
             ·rw [if_neg c23] at H
              have c23b0 : decide (4294967296 ≤ (IntKind.u64.wrap (x16_1 + ((ji10) / 4294967296)))) = false:=decide_eq_false c23
              clear c23
              have H':=Aside0.mk H
              clear H
              go_wp2
              repeat (go_quiet (fail);try go_wp2)
              go_roundg kj19
              case measure => have:=HK1.out;have:=HJ19.out;omega
              case rel => exact ⟨(IntKind.u64.wrap (x15_1 - 1)),(IntKind.u64.wrap (x16_1 + ((ji10) / 4294967296))),(by first | rfl | (simp;done) | (simp [*];done)),(by first | rfl | (simp;done) | (simp only [← hji10] <;> (first | rfl | simp)) | (simp [*];done)),H',⟨by have:=HK1.out;have:=HJ19.out;omega⟩,by repeat (first | exact Drawn0.refl _ | apply Drawn0.step)⟩
            ·replace c22:=Bool.eq_false_iff.mpr c22
             subst c22
             have H1 : (bits_Div64.j2 kj19 ji10 ji8 ((ji10) / 4294967296) (Go.bits .and .u64 (ji10) 4294967295) (Go.bits .or .u64 (ji12) (ji15)) ((ji17) / 4294967296) (Go.bits .and .u64 (ji17) 4294967295) x15_1) = some (r1,r2):=by rw [if_neg (show ¬ (false = true) by decide)] at H;exact H
             clear H
             have H:=H1
             clear H1
             have H':=Aside0.mk H
             clear H
             go_wp2
             repeat (go_quiet (fail);try go_wp2)
             go_meet
             case rel => exact ⟨_,(x15_1),(by first | rfl | (simp;done) | (simp [*];done)),H',⟨by have:=HK1.out;have:=HJ19.out;first | omega | exact Nat.le_refl _⟩,by repeat (first | exact Drawn0.refl _ | apply Drawn0.step)⟩
       case rest =>
        clear HC19
        try clear c1
        try clear c2
        try clear p2
        try clear c4
        try clear c4b0
        try clear c4b1
        try clear c5
        try clear c5b0
        try clear c6
        try clear c6b0
        try clear c6b1
        try clear c9
        try clear c9b0
        try clear c9b1
        try clear c11
        try clear c11b0
        try clear c14
        try clear c14b0
        try clear c14b1
        try clear c16
        try clear c16b0
        try clear c18
        try clear c18b0
        try clear c18b1
        try clear c19
        try clear c21
        try clear c21b0
        try clear c22
        try clear c23
        try clear c23b0
        try clear p2
        obtain ⟨kq,x15_18,rfl,HA,HJ18,⟨mc18,rfl⟩⟩:=hcut
        cases kq with
        | zero => exact absurd HA.out (by simp [bits_Div64.j2])
        | succ kj18 =>
         have H:=HA.out
         clear HA
         simp only [bits_Div64.j2] at H
         by_cases c24 : ((ji10) / 4294967296) = 0
         ·rw [if_pos c24] at H
          exact absurd H (by simp)
         ·rw [if_neg c24] at H
          have c24b0 : (((ji10) / 4294967296) == 0) = false:=beq_eq_false_iff_ne.mpr c24
          have c24b1 : (((ji10) / 4294967296) != 0) = true:=bne_iff_ne.mpr c24
          have H':=Aside0.mk H
          clear H
          go_wp2
          repeat (go_quiet (fail);try go_wp2)
          go_loopg [16,18] kj18 (fun kq v16 v18 w' => ∃ (x16_2 : Int) (x18_2 : Int),v16 = .int .u64 x16_2 ∧ v18 = .int .u64 x18_2 ∧ Aside0 (bits_Div64.l1 kq ji10 ji8 ((ji10) / 4294967296) (Go.bits .and .u64 (ji10) 4294967295) (Go.bits .and .u64 (ji17) 4294967295) x15_18 x16_2 (IntKind.u64.wrap ((IntKind.u64.wrap ((IntKind.u64.wrap ((Go.bits .or .u64 (ji12) (ji15)) * 4294967296)) + ((ji17) / 4294967296))) - (IntKind.u64.wrap (x15_18 * ji10)))) x18_2 = some (r1,r2)) ∧ Aside0 (kq ≤ kj18) ∧ Drawn0 w w')
          case atStart => exact ⟨(IntKind.u64.wrap ((IntKind.u64.wrap ((IntKind.u64.wrap ((IntKind.u64.wrap ((Go.bits .or .u64 (ji12) (ji15)) * 4294967296)) + ((ji17) / 4294967296))) - (IntKind.u64.wrap (x15_18 * ji10)))) - (IntKind.u64.wrap ((IntKind.u64.wrap (Int.tdiv (IntKind.u64.wrap ((IntKind.u64.wrap ((IntKind.u64.wrap ((Go.bits .or .u64 (ji12) (ji15)) * 4294967296)) + ((ji17) / 4294967296))) - (IntKind.u64.wrap (x15_18 * ji10)))) ((ji10) / 4294967296))) * ((ji10) / 4294967296))))),(IntKind.u64.wrap (Int.tdiv (IntKind.u64.wrap ((IntKind.u64.wrap ((IntKind.u64.wrap ((Go.bits .or .u64 (ji12) (ji15)) * 4294967296)) + ((ji17) / 4294967296))) - (IntKind.u64.wrap (x15_18 * ji10)))) ((ji10) / 4294967296))),(by first | rfl | (simp;done) | (simp only [← hji10,← hji12,← hji15,← hji17] <;> (first | rfl | simp)) | (simp [*];done)),(by first | rfl | (simp;done) | (simp only [← hji10,← hji12,← hji15,← hji17] <;> (first | rfl | simp)) | (simp [*];done)),H',⟨Nat.le_refl _⟩,by repeat (first | exact Drawn0.refl _ | apply Drawn0.step)⟩
          case round =>
           clear H'
           try clear c1
           try clear c2
           try clear p2
           try clear c4
           try clear c4b0
           try clear c4b1
           try clear c5
           try clear c5b0
           try clear c6
           try clear c6b0
           try clear c6b1
           try clear c9
           try clear c9b0
           try clear c9b1
           try clear c11
           try clear c11b0
           try clear c14
           try clear c14b0
           try clear c14b1
           try clear c16
           try clear c16b0
           try clear c18
           try clear c18b0
           try clear c18b1
           try clear c19
           try clear c21
           try clear c21b0
           try clear c22
           try clear c23
           try clear c23b0
           try clear c24
           try clear c24b0
           try clear c24b1
           try clear p2
           obtain ⟨x16_2,x18_2,rfl,rfl,HA,HK2,⟨m2,rfl⟩⟩:=hrel
           cases gk with
           | zero => exact absurd HA.out (by simp [bits_Div64.l1])
           | succ k2 =>
            have H:=HA.out
            clear HA
            simp only [bits_Div64.l1] at H
            have HC25:=Aside0.mk H
            clear H
            go_upto_region 24 with (fail)
            repeat (go_quiet (fail);go_upto_region 24 with (fail))
            go_cut [113] (fun v113 wc => ∃ (kq : Nat) (x113_24 : Bool),v113 = .bool x113_24 ∧ Aside0 (bits_Div64.j4 kq ji10 ji8 ((ji10) / 4294967296) (Go.bits .and .u64 (ji10) 4294967295) (Go.bits .and .u64 (ji17) 4294967295) x15_18 x16_2 (IntKind.u64.wrap ((IntKind.u64.wrap ((IntKind.u64.wrap ((Go.bits .or .u64 (ji12) (ji15)) * 4294967296)) + ((ji17) / 4294967296))) - (IntKind.u64.wrap (x15_18 * ji10)))) x18_2 x113_24 = some (r1,r2)) ∧ Aside0 (kq ≤ k2) ∧ Drawn0 w wc)
            case first =>
             have H:=HC25.out
             clear HC25
             by_cases c26 : x18_2 ≥ 4294967296
             ·rw [if_pos c26] at H
              have c26b0 : decide (4294967296 ≤ x18_2) = true:=decide_eq_true c26
              clear c26
              (first | rw [c26b0] | (simp only [i64_w,i32_w];rw [c26b0]) | skip)
              have H':=Aside0.mk H
              clear H
              go_wp2
              repeat (go_quiet (fail);try go_wp2)
              go_meet
              case rel => exact ⟨_,(true),(by first | rfl | (simp;done) | (simp [*];done)),H',⟨by have:=HJ18.out;have:=HK2.out;first | omega | exact Nat.le_refl _⟩,by repeat (first | exact Drawn0.refl _ | apply Drawn0.step)⟩
             ·rw [if_neg c26] at H
              have c26b0 : decide (4294967296 ≤ x18_2) = false:=decide_eq_false c26
              clear c26
              (first | rw [c26b0] | (simp only [i64_w,i32_w];rw [c26b0]) | skip)
              have H':=Aside0.mk H
              clear H
              go_wp2
              repeat (go_quiet (fail);try go_wp2)
              go_meet
              case rel => exact ⟨_,(decide ((IntKind.u64.wrap (x18_2 * (Go.bits .and .u64 (ji10) 4294967295))) > (IntKind.u64.wrap ((IntKind.u64.wrap (4294967296 * x16_2)) + (Go.bits .and .u64 (ji17) 4294967295))))),(by first | rfl | (simp;done) | (simp only [← hji10,← hji17] <;> (first | rfl | simp)) | (simp [*];done)),H',⟨by have:=HJ18.out;have:=HK2.out;first | omega | exact Nat.le_refl _⟩,by repeat (first | exact Drawn0.refl _ | apply Drawn0.step)⟩
            case rest =>
             clear HC25
             try clear c1
             try clear c2
             try clear p2
             try clear c4
             try clear c4b0
             try clear c4b1
             try clear c5
             try clear c5b0
             try clear c6
             try clear c6b0
             try clear c6b1
             try clear c9
             try clear c9b0
             try clear c9b1
             try clear c11
             try clear c11b0
             try clear c14
             try clear c14b0
             try clear c14b1
             try clear c16
             try clear c16b0
             try clear c18
             try clear c18b0
             try clear c18b1
             try clear c19
             try clear c21
             try clear c21b0
             try clear c22
             try clear c23
             try clear c23b0
             try clear c24
             try clear c24b0
             try clear c24b1
             try clear c26
             try clear c26b0
             try clear p2
             obtain ⟨kq,x113_24,rfl,HA,HJ24,⟨mc24,rfl⟩⟩:=hcut
             cases kq with
             | zero => exact absurd HA.out (by simp [bits_Div64.j4])
             | succ kj24 =>
              have H:=HA.out
              clear HA
              simp only [bits_Div64.j4] at H
              by_cases c27 : x113_24 = true
              ·subst c27
               have H1 : (if (IntKind.u64.wrap (x16_2 + ((ji10) / 4294967296))) ≥ 4294967296 then (if 0 ≤ ji8 then (some (IntKind.u64.wrap ((IntKind.u64.wrap (x15_18 * 4294967296)) + (IntKind.u64.wrap (x18_2 - 1))),shr .u64 (IntKind.u64.wrap ((IntKind.u64.wrap ((IntKind.u64.wrap ((IntKind.u64.wrap ((IntKind.u64.wrap ((IntKind.u64.wrap ((Go.bits .or .u64 (ji12) (ji15)) * 4294967296)) + ((ji17) / 4294967296))) - (IntKind.u64.wrap (x15_18 * ji10)))) * 4294967296)) + (Go.bits .and .u64 (ji17) 4294967295))) - (IntKind.u64.wrap ((IntKind.u64.wrap (x18_2 - 1)) * ji10)))) ji8)) else (none)) else (bits_Div64.l1 kj24 ji10 ji8 ((ji10) / 4294967296) (Go.bits .and .u64 (ji10) 4294967295) (Go.bits .and .u64 (ji17) 4294967295) x15_18 (IntKind.u64.wrap (x16_2 + ((ji10) / 4294967296))) (IntKind.u64.wrap ((IntKind.u64.wrap ((IntKind.u64.wrap ((Go.bits .or .u64 (ji12) (ji15)) * 4294967296)) + ((ji17) / 4294967296))) - (IntKind.u64.wrap (x15_18 * ji10)))) (IntKind.u64.wrap (x18_2 - 1)))) = some (r1,r2):=by rw [if_pos rfl] at H;exact H
               clear H
               have H:=H1
               clear H1
               by_cases c28 : (IntKind.u64.wrap (x16_2 + ((ji10) / 4294967296))) ≥ 4294967296
               ·rw [if_pos c28] at H
                have c28b0 : decide (4294967296 ≤ (IntKind.u64.wrap (x16_2 + ((ji10) / 4294967296)))) = true:=decide_eq_true c28
                clear c28
                by_cases c29 : 0 ≤ ji8
                ·rw [if_pos c29] at H
                 have c29b0:=eq_true c29
                 have c29b1 : decide (0 ≤ ji8) = true:=decide_eq_true c29
                 clear c29
                 obtain ⟨ji30,hji30⟩ : ∃ j_ : Int,(shr .u64 (IntKind.u64.wrap ((IntKind.u64.wrap ((IntKind.u64.wrap ((IntKind.u64.wrap ((IntKind.u64.wrap ((IntKind.u64.wrap ((Go.bits .or .u64 (ji12) (ji15)) * 4294967296)) + ((ji17) / 4294967296))) - (IntKind.u64.wrap (x15_18 * ji10)))) * 4294967296)) + (Go.bits .and .u64 (ji17) 4294967295))) - (IntKind.u64.wrap ((IntKind.u64.wrap (x18_2 - 1)) * ji10)))) ji8) = j_:=⟨_,rfl⟩
                 replace H : (some (IntKind.u64.wrap ((IntKind.u64.wrap (x15_18 * 4294967296)) + (IntKind.u64.wrap (x18_2 - 1))),ji30)) = some (r1,r2):=by first | (rw [hji30] at H;exact H) | (simp only [hji30] at H ⊢;exact H)
                 have hji30_ : ((IntKind.u64.wrap ((IntKind.u64.wrap ((IntKind.u64.wrap ((IntKind.u64.wrap ((IntKind.u64.wrap ((IntKind.u64.wrap ((Go.bits .or .u64 (ji12) (ji15)) * 4294967296)) + ((ji17) / 4294967296))) - (IntKind.u64.wrap (x15_18 * ji10)))) * 4294967296)) + (Go.bits .and .u64 (ji17) 4294967295))) - (IntKind.u64.wrap ((IntKind.u64.wrap (x18_2 - 1)) * ji10)))) / 2 ^ min ji8.toNat 64) = ji30:=hji30
                 have hji30z : ji8 ≤ 64 → ((IntKind.u64.wrap ((IntKind.u64.wrap ((IntKind.u64.wrap ((IntKind.u64.wrap ((IntKind.u64.wrap ((IntKind.u64.wrap ((Go.bits .or .u64 (ji12) (ji15)) * 4294967296)) + ((ji17) / 4294967296))) - (IntKind.u64.wrap (x15_18 * ji10)))) * 4294967296)) + (Go.bits .and .u64 (ji17) 4294967295))) - (IntKind.u64.wrap ((IntKind.u64.wrap (x18_2 - 1)) * ji10)))) / 2 ^ ji8.toNat) = ji30:=shr_small hji30
                 simp only [Option.some.injEq,Prod.mk.injEq] at H
                 obtain ⟨rfl,rfl⟩:=H
                 go_wp2
                 repeat (go_quiet (fail);try go_wp2)
                 go_ret2
                 exact ⟨by first | rfl | (simp;done) | (simp only [← hji8,← hji10,← hji12,← hji13,← hji15,← hji17,← hji30] <;> (first | rfl | simp)) | (simp [*];done),by repeat (first | exact Drawn0.refl _ | apply Drawn0.step)⟩
                ·rw [if_neg c29] at H
                 exact absurd H (by simp)
               ·rw [if_neg c28] at H
                have c28b0 : decide (4294967296 ≤ (IntKind.u64.wrap (x16_2 + ((ji10) / 4294967296)))) = false:=decide_eq_false c28
                clear c28
                have H':=Aside0.mk H
                clear H
                go_wp2
                repeat (go_quiet (fail);try go_wp2)
                go_roundg kj24
                case measure => have:=HJ18.out;have:=HK2.out;have:=HJ24.out;omega
                case rel => exact ⟨(IntKind.u64.wrap (x16_2 + ((ji10) / 4294967296))),(IntKind.u64.wrap (x18_2 - 1)),(by first | rfl | (simp;done) | (simp only [← hji10] <;> (first | rfl | simp)) | (simp [*];done)),(by first | rfl | (simp;done) | (simp [*];done)),H',⟨by have:=HJ18.out;have:=HK2.out;have:=HJ24.out;omega⟩,by repeat (first | exact Drawn0.refl _ | apply Drawn0.step)⟩
              ·replace c27:=Bool.eq_false_iff.mpr c27
               subst c27
               have H1 : (if 0 ≤ ji8 then (some (IntKind.u64.wrap ((IntKind.u64.wrap (x15_18 * 4294967296)) + x18_2),shr .u64 (IntKind.u64.wrap ((IntKind.u64.wrap ((IntKind.u64.wrap ((IntKind.u64.wrap ((IntKind.u64.wrap ((IntKind.u64.wrap ((Go.bits .or .u64 (ji12) (ji15)) * 4294967296)) + ((ji17) / 4294967296))) - (IntKind.u64.wrap (x15_18 * ji10)))) * 4294967296)) + (Go.bits .and .u64 (ji17) 4294967295))) - (IntKind.u64.wrap (x18_2 * ji10)))) ji8)) else (none)) = some (r1,r2):=by rw [if_neg (show ¬ (false = true) by decide)] at H;exact H
               clear H
               have H:=H1
               clear H1
               by_cases c31 : 0 ≤ ji8
               ·rw [if_pos c31] at H
                have c31b0:=eq_true c31
                have c31b1 : decide (0 ≤ ji8) = true:=decide_eq_true c31
                clear c31
                obtain ⟨ji32,hji32⟩ : ∃ j_ : Int,(shr .u64 (IntKind.u64.wrap ((IntKind.u64.wrap ((IntKind.u64.wrap ((IntKind.u64.wrap ((IntKind.u64.wrap ((IntKind.u64.wrap ((Go.bits .or .u64 (ji12) (ji15)) * 4294967296)) + ((ji17) / 4294967296))) - (IntKind.u64.wrap (x15_18 * ji10)))) * 4294967296)) + (Go.bits .and .u64 (ji17) 4294967295))) - (IntKind.u64.wrap (x18_2 * ji10)))) ji8) = j_:=⟨_,rfl⟩
                replace H : (some (IntKind.u64.wrap ((IntKind.u64.wrap (x15_18 * 4294967296)) + x18_2),ji32)) = some (r1,r2):=by first | (rw [hji32] at H;exact H) | (simp only [hji32] at H ⊢;exact H)
                have hji32_ : ((IntKind.u64.wrap ((IntKind.u64.wrap ((IntKind.u64.wrap ((IntKind.u64.wrap ((IntKind.u64.wrap ((IntKind.u64.wrap ((Go.bits .or .u64 (ji12) (ji15)) * 4294967296)) + ((ji17) / 4294967296))) - (IntKind.u64.wrap (x15_18 * ji10)))) * 4294967296)) + (Go.bits .and .u64 (ji17) 4294967295))) - (IntKind.u64.wrap (x18_2 * ji10)))) / 2 ^ min ji8.toNat 64) = ji32:=hji32
                have hji32z : ji8 ≤ 64 → ((IntKind.u64.wrap ((IntKind.u64.wrap ((IntKind.u64.wrap ((IntKind.u64.wrap ((IntKind.u64.wrap ((IntKind.u64.wrap ((Go.bits .or .u64 (ji12) (ji15)) * 4294967296)) + ((ji17) / 4294967296))) - (IntKind.u64.wrap (x15_18 * ji10)))) * 4294967296)) + (Go.bits .and .u64 (ji17) 4294967295))) - (IntKind.u64.wrap (x18_2 * ji10)))) / 2 ^ ji8.toNat) = ji32:=shr_small hji32
                simp only [Option.some.injEq,Prod.mk.injEq] at H
                obtain ⟨rfl,rfl⟩:=H
                go_wp2
                repeat (go_quiet (fail);try go_wp2)
                go_ret2
                exact ⟨by first | rfl | (simp;done) | (simp only [← hji8,← hji10,← hji12,← hji13,← hji15,← hji17,← hji32] <;> (first | rfl | simp)) | (simp [*];done),by repeat (first | exact Drawn0.refl _ | apply Drawn0.step)⟩
               ·rw [if_neg c31] at H
                exact absurd H (by simp)
     ·rw [if_neg c14] at H
      exact absurd H (by simp)
    ·rw [if_neg c9] at H
     exact absurd H (by simp)

def wide_Div.f (k : Nat) (a0_0 : Int) (a0_1 : Int) (a1 : Int) : Option (Int × Int × Int × Bool):=if a1 = 0 then (some (0,0,0,false)) else ((bits_Div64.f k (Int.tmod a0_0 a1) a0_1 a1).bind fun bt210 => (some (IntKind.u64.wrap (Int.tdiv a0_0 a1),bt210.1,bt210.2,true)))
set_option maxHeartbeats 8000000 in
set_option maxRecDepth 100000 in
theorem wide_Div.calls (k : Nat) (a0_0 : Int) (a0_1 : Int) (a1 : Int) (r1 : Int) (r2 : Int) (r3 : Int) (r4 : Bool) (w : World) (h : wide_Div.f k a0_0 a0_1 a1 = some (r1,r2,r3,r4)) :
  Calls Tryd.prog 41 #[.agg #[.int .u64 a0_0,.int .u64 a0_1],.int .u64 a1] w fun e w' => e = .returned (.tuple #[.agg #[.int .u64 r1,.int .u64 r2],.int .u64 r3,.bool r4]) ∧ Below w.heap.size w w':=by
 have hu76:=Tryd.underlying76
 have HB:=Am (Below.refl w.heap.size w)
 have H : (if a1 = 0 then (some (0,0,0,false)) else ((bits_Div64.f k (Int.tmod a0_0 a1) a0_1 a1).bind fun bt210 => (some (IntKind.u64.wrap (Int.tdiv a0_0 a1),bt210.1,bt210.2,true)))) = some (r1,r2,r3,r4):=h
 clear h
 by_cases c3 : a1 = 0
 ·rw [if_pos c3] at H
  have c3b0 : (a1 == 0) = true:=beq_iff_eq.mpr c3
  have c3b1 : (a1 != 0) = false:=bne_eq_false_iff_eq.mpr c3
  clear c3
  simp only [Option.some.injEq,Prod.mk.injEq] at H
  obtain ⟨rfl,rfl,rfl,rfl⟩:=H
  go_enter Tryd.func41,Tryd.ntmps41
  go_wp2_with (first | ((with_reducible refine gate_dst (N:=2) rfl ?_);refine bxA 2 #[.int .u64 a0_0,.int .u64 a0_1] 76 ?_;intro gb208 hg w4 hbox hb;have n0_:=Am (below_step bA hb);have n1_:=Am (hbox);have n2_:=Am (gwA hg bA);have n3_:=Am (gwA hg bA);clear HB;have HB:=n0_;have BK208:=n1_;have GW208:=n2_;have GE208:=n3_;clear n0_ n1_ n2_ n3_ hb hbox hg) | ((with_reducible refine gate_dst (N:=4) rfl ?_);refine bxA 4 #[.int .u64 0,.int .u64 0] 76 ?_;intro gb209 hg w5 hbox hb;have n0_:=Am (blk_below (g:=gb208) kA hb);have n1_:=Am (below_step bA hb);have n2_:=Am (hbox);have n3_:=Am (gwA hg bA);have n4_:=Am (gwA hg bA);have n5_:=Am (neA (g:=gb208) hg kA);have n6_:=Am (neB (g:=gb208) hg kA);clear BK208 HB;have BK208:=n0_;have HB:=n1_;have BK209:=n2_;have GW209:=n3_;have GE209:=n4_;have NB208_209:=n5_;have NB209_208:=n6_;clear n0_ n1_ n2_ n3_ n4_ n5_ n6_ hb hbox hg;have hnb6:=NB209_208.out;have hnc6:=NB208_209.out;have hcz7_0 : w5.cell? ⟨gb209,0,none⟩ = some (.int .u64 0):=(blk_cell BK209.out 0).trans rfl;have hcz7_1 : w5.cell? ⟨gb209,1,none⟩ = some (.int .u64 0):=(blk_cell BK209.out 1).trans rfl;have hfz7_0:=blk_frozen BK209.out 0;have hfz7_1:=blk_frozen BK209.out 1))
  repeat (go_quiet (first | ((with_reducible refine gate_dst (N:=2) rfl ?_);refine bxA 2 #[.int .u64 a0_0,.int .u64 a0_1] 76 ?_;intro gb208 hg w4 hbox hb;have n0_:=Am (below_step bA hb);have n1_:=Am (hbox);have n2_:=Am (gwA hg bA);have n3_:=Am (gwA hg bA);clear HB;have HB:=n0_;have BK208:=n1_;have GW208:=n2_;have GE208:=n3_;clear n0_ n1_ n2_ n3_ hb hbox hg) | ((with_reducible refine gate_dst (N:=4) rfl ?_);refine bxA 4 #[.int .u64 0,.int .u64 0] 76 ?_;intro gb209 hg w5 hbox hb;have n0_:=Am (blk_below (g:=gb208) kA hb);have n1_:=Am (below_step bA hb);have n2_:=Am (hbox);have n3_:=Am (gwA hg bA);have n4_:=Am (gwA hg bA);have n5_:=Am (neA (g:=gb208) hg kA);have n6_:=Am (neB (g:=gb208) hg kA);clear BK208 HB;have BK208:=n0_;have HB:=n1_;have BK209:=n2_;have GW209:=n3_;have GE209:=n4_;have NB208_209:=n5_;have NB209_208:=n6_;clear n0_ n1_ n2_ n3_ n4_ n5_ n6_ hb hbox hg;have hnb6:=NB209_208.out;have hnc6:=NB208_209.out;have hcz7_0 : w5.cell? ⟨gb209,0,none⟩ = some (.int .u64 0):=(blk_cell BK209.out 0).trans rfl;have hcz7_1 : w5.cell? ⟨gb209,1,none⟩ = some (.int .u64 0):=(blk_cell BK209.out 1).trans rfl;have hfz7_0:=blk_frozen BK209.out 0;have hfz7_1:=blk_frozen BK209.out 1));try go_wp2_with (first | ((with_reducible refine gate_dst (N:=2) rfl ?_);refine bxA 2 #[.int .u64 a0_0,.int .u64 a0_1] 76 ?_;intro gb208 hg w4 hbox hb;have n0_:=Am (below_step bA hb);have n1_:=Am (hbox);have n2_:=Am (gwA hg bA);have n3_:=Am (gwA hg bA);clear HB;have HB:=n0_;have BK208:=n1_;have GW208:=n2_;have GE208:=n3_;clear n0_ n1_ n2_ n3_ hb hbox hg) | ((with_reducible refine gate_dst (N:=4) rfl ?_);refine bxA 4 #[.int .u64 0,.int .u64 0] 76 ?_;intro gb209 hg w5 hbox hb;have n0_:=Am (blk_below (g:=gb208) kA hb);have n1_:=Am (below_step bA hb);have n2_:=Am (hbox);have n3_:=Am (gwA hg bA);have n4_:=Am (gwA hg bA);have n5_:=Am (neA (g:=gb208) hg kA);have n6_:=Am (neB (g:=gb208) hg kA);clear BK208 HB;have BK208:=n0_;have HB:=n1_;have BK209:=n2_;have GW209:=n3_;have GE209:=n4_;have NB208_209:=n5_;have NB209_208:=n6_;clear n0_ n1_ n2_ n3_ n4_ n5_ n6_ hb hbox hg;have hnb6:=NB209_208.out;have hnc6:=NB208_209.out;have hcz7_0 : w5.cell? ⟨gb209,0,none⟩ = some (.int .u64 0):=(blk_cell BK209.out 0).trans rfl;have hcz7_1 : w5.cell? ⟨gb209,1,none⟩ = some (.int .u64 0):=(blk_cell BK209.out 1).trans rfl;have hfz7_0:=blk_frozen BK209.out 0;have hfz7_1:=blk_frozen BK209.out 1)))
  refine bodyPost_ret (results_ctt rfl _ _ gb209 76 #[.int .u64 0,.int .u64 0] (0,0) _ rfl (by (with_reducible repeat (first | refine b1 ?_ _ | refine b2 ?_ | refine b3 ?_ _));refine blk_put (cs:=#[.int .u64 0,.int .u64 0]) ?_ 1 _ rfl;(with_reducible repeat (first | refine b1 ?_ _ | refine b2 ?_ | refine b3 ?_ _));refine blk_put (cs:=#[.int .u64 0,.int .u64 0]) ?_ 0 _ rfl;exact kA) Tryd.underlying76 rfl (by kernel_rfl)) rfl ?_
  exact ⟨by first | rfl | (simp [errW_none,errW_some] <;> rfl) | (simp [*,errW_none,errW_some] <;> rfl),bA⟩
 ·rw [if_neg c3] at H
  have c3b0 : (a1 == 0) = false:=beq_eq_false_iff_ne.mpr c3
  have c3b1 : (a1 != 0) = true:=bne_iff_ne.mpr c3
  replace H:=Option.bind_eq_some_iff.mp H;obtain ⟨⟨t210,t211⟩,A80,H⟩:=H;replace H : (some (IntKind.u64.wrap (Int.tdiv a0_0 a1),t210,t211,true)) = some (r1,r2,r3,r4):=H;have A8:=Aside0.mk A80;clear A80
  simp only [Option.some.injEq,Prod.mk.injEq] at H
  obtain ⟨rfl,rfl,rfl,rfl⟩:=H
  go_enter Tryd.func41,Tryd.ntmps41
  go_wp2_with (first | ((with_reducible refine gate_dst (N:=2) rfl ?_);refine bxA 2 #[.int .u64 a0_0,.int .u64 a0_1] 76 ?_;intro gb208 hg w9 hbox hb;have n0_:=Am (below_step bA hb);have n1_:=Am (hbox);have n2_:=Am (gwA hg bA);have n3_:=Am (gwA hg bA);clear HB;have HB:=n0_;have BK208:=n1_;have GW208:=n2_;have GE208:=n3_;clear n0_ n1_ n2_ n3_ hb hbox hg) | ((with_reducible refine gate_dst (N:=4) rfl ?_);refine bxA 4 #[.int .u64 0,.int .u64 0] 76 ?_;intro gb209 hg w10 hbox hb;have n0_:=Am (blk_below (g:=gb208) kA hb);have n1_:=Am (below_step bA hb);have n2_:=Am (hbox);have n3_:=Am (gwA hg bA);have n4_:=Am (gwA hg bA);have n5_:=Am (neA (g:=gb208) hg kA);have n6_:=Am (neB (g:=gb208) hg kA);clear BK208 HB;have BK208:=n0_;have HB:=n1_;have BK209:=n2_;have GW209:=n3_;have GE209:=n4_;have NB208_209:=n5_;have NB209_208:=n6_;clear n0_ n1_ n2_ n3_ n4_ n5_ n6_ hb hbox hg;have hnb11:=NB208_209.out;have hnc11:=NB209_208.out;have hcz12_0 : w10.cell? ⟨gb208,0,none⟩ = some (.int .u64 a0_0):=(blk_cell BK208.out 0).trans rfl;have hcz12_1 : w10.cell? ⟨gb208,1,none⟩ = some (.int .u64 a0_1):=(blk_cell BK208.out 1).trans rfl;have hfz12_0:=blk_frozen BK208.out 0;have hfz12_1:=blk_frozen BK208.out 1) | (go_at_call 69;(with_reducible refine (bits_Div64.calls k (Int.tmod a0_0 a1) a0_1 a1 t210 t211 _ A8.out).mono ?_);rintro e w' ⟨rfl,⟨nd,rfl⟩⟩;(try first | exact ⟨rfl,_,World.drewN_drewN _ _ _⟩ | exact ⟨rfl,_,Eq.trans (World.drewN_drewN _ _ _) (congrArg (World.drewN _) (Nat.add_assoc _ _ _))⟩);have hcz13_0 : w10.cell? ⟨gb209,0,none⟩ = some (.int .u64 0):=(blk_cell BK209.out 0).trans rfl;have hcz13_1 : w10.cell? ⟨gb209,1,none⟩ = some (.int .u64 0):=(blk_cell BK209.out 1).trans rfl;have hfz13_0:=blk_frozen BK209.out 0;have hfz13_1:=blk_frozen BK209.out 1))
  repeat (go_quiet (first | ((with_reducible refine gate_dst (N:=2) rfl ?_);refine bxA 2 #[.int .u64 a0_0,.int .u64 a0_1] 76 ?_;intro gb208 hg w9 hbox hb;have n0_:=Am (below_step bA hb);have n1_:=Am (hbox);have n2_:=Am (gwA hg bA);have n3_:=Am (gwA hg bA);clear HB;have HB:=n0_;have BK208:=n1_;have GW208:=n2_;have GE208:=n3_;clear n0_ n1_ n2_ n3_ hb hbox hg) | ((with_reducible refine gate_dst (N:=4) rfl ?_);refine bxA 4 #[.int .u64 0,.int .u64 0] 76 ?_;intro gb209 hg w10 hbox hb;have n0_:=Am (blk_below (g:=gb208) kA hb);have n1_:=Am (below_step bA hb);have n2_:=Am (hbox);have n3_:=Am (gwA hg bA);have n4_:=Am (gwA hg bA);have n5_:=Am (neA (g:=gb208) hg kA);have n6_:=Am (neB (g:=gb208) hg kA);clear BK208 HB;have BK208:=n0_;have HB:=n1_;have BK209:=n2_;have GW209:=n3_;have GE209:=n4_;have NB208_209:=n5_;have NB209_208:=n6_;clear n0_ n1_ n2_ n3_ n4_ n5_ n6_ hb hbox hg;have hnb11:=NB208_209.out;have hnc11:=NB209_208.out;have hcz12_0 : w10.cell? ⟨gb208,0,none⟩ = some (.int .u64 a0_0):=(blk_cell BK208.out 0).trans rfl;have hcz12_1 : w10.cell? ⟨gb208,1,none⟩ = some (.int .u64 a0_1):=(blk_cell BK208.out 1).trans rfl;have hfz12_0:=blk_frozen BK208.out 0;have hfz12_1:=blk_frozen BK208.out 1) | (go_at_call 69;(with_reducible refine (bits_Div64.calls k (Int.tmod a0_0 a1) a0_1 a1 t210 t211 _ A8.out).mono ?_);rintro e w' ⟨rfl,⟨nd,rfl⟩⟩;(try first | exact ⟨rfl,_,World.drewN_drewN _ _ _⟩ | exact ⟨rfl,_,Eq.trans (World.drewN_drewN _ _ _) (congrArg (World.drewN _) (Nat.add_assoc _ _ _))⟩);have hcz13_0 : w10.cell? ⟨gb209,0,none⟩ = some (.int .u64 0):=(blk_cell BK209.out 0).trans rfl;have hcz13_1 : w10.cell? ⟨gb209,1,none⟩ = some (.int .u64 0):=(blk_cell BK209.out 1).trans rfl;have hfz13_0:=blk_frozen BK209.out 0;have hfz13_1:=blk_frozen BK209.out 1));try go_wp2_with (first | ((with_reducible refine gate_dst (N:=2) rfl ?_);refine bxA 2 #[.int .u64 a0_0,.int .u64 a0_1] 76 ?_;intro gb208 hg w9 hbox hb;have n0_:=Am (below_step bA hb);have n1_:=Am (hbox);have n2_:=Am (gwA hg bA);have n3_:=Am (gwA hg bA);clear HB;have HB:=n0_;have BK208:=n1_;have GW208:=n2_;have GE208:=n3_;clear n0_ n1_ n2_ n3_ hb hbox hg) | ((with_reducible refine gate_dst (N:=4) rfl ?_);refine bxA 4 #[.int .u64 0,.int .u64 0] 76 ?_;intro gb209 hg w10 hbox hb;have n0_:=Am (blk_below (g:=gb208) kA hb);have n1_:=Am (below_step bA hb);have n2_:=Am (hbox);have n3_:=Am (gwA hg bA);have n4_:=Am (gwA hg bA);have n5_:=Am (neA (g:=gb208) hg kA);have n6_:=Am (neB (g:=gb208) hg kA);clear BK208 HB;have BK208:=n0_;have HB:=n1_;have BK209:=n2_;have GW209:=n3_;have GE209:=n4_;have NB208_209:=n5_;have NB209_208:=n6_;clear n0_ n1_ n2_ n3_ n4_ n5_ n6_ hb hbox hg;have hnb11:=NB208_209.out;have hnc11:=NB209_208.out;have hcz12_0 : w10.cell? ⟨gb208,0,none⟩ = some (.int .u64 a0_0):=(blk_cell BK208.out 0).trans rfl;have hcz12_1 : w10.cell? ⟨gb208,1,none⟩ = some (.int .u64 a0_1):=(blk_cell BK208.out 1).trans rfl;have hfz12_0:=blk_frozen BK208.out 0;have hfz12_1:=blk_frozen BK208.out 1) | (go_at_call 69;(with_reducible refine (bits_Div64.calls k (Int.tmod a0_0 a1) a0_1 a1 t210 t211 _ A8.out).mono ?_);rintro e w' ⟨rfl,⟨nd,rfl⟩⟩;(try first | exact ⟨rfl,_,World.drewN_drewN _ _ _⟩ | exact ⟨rfl,_,Eq.trans (World.drewN_drewN _ _ _) (congrArg (World.drewN _) (Nat.add_assoc _ _ _))⟩);have hcz13_0 : w10.cell? ⟨gb209,0,none⟩ = some (.int .u64 0):=(blk_cell BK209.out 0).trans rfl;have hcz13_1 : w10.cell? ⟨gb209,1,none⟩ = some (.int .u64 0):=(blk_cell BK209.out 1).trans rfl;have hfz13_0:=blk_frozen BK209.out 0;have hfz13_1:=blk_frozen BK209.out 1)))
  refine bodyPost_ret (results_ctt rfl _ _ gb209 76 #[.int .u64 (IntKind.u64.wrap (Int.tdiv a0_0 a1)),.int .u64 t210] (0,0) _ rfl (by (with_reducible repeat (first | refine b1 ?_ _ | refine b2 ?_ | refine b3 ?_ _));refine blk_put (cs:=#[.int .u64 (IntKind.u64.wrap (Int.tdiv a0_0 a1)),.int .u64 0]) ?_ 1 _ rfl;(with_reducible repeat (first | refine b1 ?_ _ | refine b2 ?_ | refine b3 ?_ _));refine blk_put (cs:=#[.int .u64 0,.int .u64 0]) ?_ 0 _ rfl;exact kA) Tryd.underlying76 rfl (by kernel_rfl)) rfl ?_
  exact ⟨by first | rfl | (simp [errW_none,errW_some] <;> rfl) | (simp [*,errW_none,errW_some] <;> rfl),bA⟩

def share_part.f (k : Nat) (a0 : Int) (a1 : Int) (a2 : Int) : Option (Int):=(wide_Mul.f a0 a1).bind fun bt212 => ((wide_Div.f k bt212.1 bt212.2 a2).bind fun bt214 => (some bt214.2.1))
set_option maxHeartbeats 8000000 in
set_option maxRecDepth 100000 in
theorem share_part.calls (k : Nat) (a0 : Int) (a1 : Int) (a2 : Int) (r : Int) (w : World) (h : share_part.f k a0 a1 a2 = some r) :
  Calls Tryd.prog 21 #[.int .u64 a0,.int .u64 a1,.int .u64 a2] w fun e w' => e = .returned (.int .u64 r) ∧ Below w.heap.size w w':=by
 have hu76:=Tryd.underlying76
 have HB:=Am (Below.refl w.heap.size w)
 have H : ((wide_Mul.f a0 a1).bind fun bt212 => ((wide_Div.f k bt212.1 bt212.2 a2).bind fun bt214 => (some bt214.2.1))) = some r:=h
 clear h;replace H:=Option.bind_eq_some_iff.mp H;obtain ⟨⟨t212,t213⟩,A40,H⟩:=H;replace H : ((wide_Div.f k t212 t213 a2).bind fun bt214 => (some bt214.2.1)) = some r:=H;have A4:=Aside0.mk A40;clear A40;replace H:=Option.bind_eq_some_iff.mp H;obtain ⟨⟨t214,t215,t216,t217⟩,A50,H⟩:=H;replace H : (some t215) = some r:=H;have A5:=Aside0.mk A50;clear A50
 obtain rfl:=Option.some.inj H
 go_enter Tryd.func21,Tryd.ntmps21
 go_wp2_with (first | ((with_reducible refine gate_callee (f:=42) rfl ?_);refine goesL_ (some 13) rfl rfl Tryd.func42 (by kernel_rfl) rfl #[.int .u64 a0,.int .u64 a1] rfl aA ?_;(with_reducible refine (wide_Mul.calls a0 a1 t212 t213 _ A4.out).mono ?_);rintro e w6 ⟨rfl,hb⟩;refine ⟨_,rfl,?_⟩;have n0_:=Am (below_step bA hb);clear HB;have HB:=n0_;clear n0_;(try clear hb)) | ((with_reducible refine gate_callee (f:=41) rfl ?_);refine goesL_ (some 15) rfl rfl Tryd.func41 (by kernel_rfl) rfl #[.agg #[.int .u64 t212,.int .u64 t213],.int .u64 a2] rfl aA ?_;(with_reducible refine (wide_Div.calls k t212 t213 a2 t214 t215 t216 t217 _ A5.out).mono ?_);rintro e w7 ⟨rfl,hb⟩;refine ⟨_,rfl,?_⟩;have n0_:=Am (below_step bA hb);clear HB;have HB:=n0_;clear n0_;(try clear hb)) | ((with_reducible refine gate_dst (N:=7) rfl ?_);refine bxA 7 #[.int .u64 0,.int .u64 0] 76 ?_;intro gb218 hg w8 hbox hb;have n0_:=Am (below_step bA hb);have n1_:=Am (hbox);have n2_:=Am (gwA hg bA);have n3_:=Am (gwA hg bA);clear HB;have HB:=n0_;have BK218:=n1_;have GW218:=n2_;have GE218:=n3_;clear n0_ n1_ n2_ n3_ hb hbox hg;have hcz9_0 : w8.cell? ⟨gb218,0,none⟩ = some (.int .u64 0):=(blk_cell BK218.out 0).trans rfl;have hcz9_1 : w8.cell? ⟨gb218,1,none⟩ = some (.int .u64 0):=(blk_cell BK218.out 1).trans rfl;have hfz9_0:=blk_frozen BK218.out 0;have hfz9_1:=blk_frozen BK218.out 1))
 go_ret
 exact ⟨by first | rfl | (simp [errW_none,errW_some] <;> rfl) | (simp [*,errW_none,errW_some] <;> rfl),bA⟩


def ladder_Half.go : Nat → Int → Int → Option Int
 | 0,_,t => some t
 | d + 1,e,t => if Go.bits .and .u64 e (IntKind.u64.wrap (2 ^ d)) = 0 then ladder_Half.go d e t else (wide_Mul.f t (rd rungsL ((31 - d : Nat) : Int))).bind fun p => ladder_Half.go d e p.1
/-- One half to the power of e / 2^32. -/
def ladder_Half.f (a0 : Int) : Option Int:=if a0 / 4294967296 ≥ 63 then some 0 else (if 0 ≤ a0 then (ladder_Half.go 32 a0 9223372036854775808).bind fun t => some (t / 2 ^ (a0 / 4294967296).toNat) else none)
set_option maxHeartbeats 8000000 in
set_option maxRecDepth 100000 in
theorem ladder_Half.calls (a0 : Int) (r : Int) (w : World) (hL : LaidW w) (h : ladder_Half.f a0 = some r) :
  Calls Tryd.prog 23 #[.int .u64 a0] w fun e w' => e = .returned (.int .u64 r) ∧ Below w.heap.size w w':=by
 have hfd : ∀ (x y : Int) (W : World),(Instr.field 76 (.agg #[.int .u64 x,.int .u64 y]) 0).run Tryd.prog W = .ok (.int .u64 x) W:=by intros;kernel_rfl
 have HB:=Am (Below.refl w.heap.size w)
 have H : (if a0 / 4294967296 ≥ 63 then some 0 else (if 0 ≤ a0 then (ladder_Half.go 32 a0 9223372036854775808).bind fun t => some (t / 2 ^ (a0 / 4294967296).toNat) else none)) = some r:=h
 clear h
 by_cases c2 : a0 / 4294967296 ≥ 63
 ·rw [if_pos c2] at H
  have c2b0 : decide (63 ≤ (a0 / 4294967296)) = true:=decide_eq_true c2
  clear c2
  obtain rfl:=Option.some.inj H
  go_enter Tryd.func23,Tryd.ntmps23
  go_wp2
  go_ret
  exact ⟨rfl,bA⟩
 ·rw [if_neg c2] at H
  by_cases c3 : 0 ≤ a0
  ·rw [if_pos c3] at H
   have c2b0 : decide (63 ≤ (a0 / 4294967296)) = false:=decide_eq_false c2
   have q0 : 0 ≤ a0 / 4294967296:=by omega
   have q1 : a0 / 4294967296 ≤ 62:=by omega
   clear c2
   obtain ⟨t,A30,H⟩:=Option.bind_eq_some_iff.mp H
   have A3:=Aside0.mk A30;clear A30
   have H':=Am (Option.some.inj H)
   clear H
   go_enter Tryd.func23,Tryd.ntmps23
   go_wp2
   go_loopg [4,10] 32 (fun kq v4 v10 w' => ∃ (x4 : Int) (j : Nat),v4 = .int .u64 x4 ∧ v10 = .int .i64 (j : Int) ∧ Aside0 (j + kq = 32) ∧ j ≤ 32 ∧ Aside0 (ladder_Half.go kq a0 x4 = some t) ∧ Aside0 (Below w.heap.size w w'))
   case atStart => exact ⟨9223372036854775808,0,rfl,rfl,⟨rfl⟩,by omega,A3,⟨bA⟩⟩
   case round =>
    obtain ⟨x4,j,rfl,rfl,HD,hj,HA,HB⟩:=hrel
    cases gk with
    | zero =>
     have HD:=HD.out
     have hx : x4 = t:=Option.some.inj HA.out
     subst hx
     obtain rfl : j = 32:=by omega
     clear HD
     go_wp2
     go_ret
     exact ⟨by rw [← H'.out];rfl,bA⟩
    | succ d =>
     have HD1:=HD.out
     have hj31 : j ≤ 31:=by omega
     have hlt : decide ((j : Int) < 32) = true:=decide_eq_true (by omega)
     obtain rfl : d = 31 - j:=by omega
     have hc : wr.cell? ⟨0,j,none⟩ = some (.int .u64 (rd rungsL (j : Int))):=laid_below hL HB.out j (by omega)
     have H:=HA.out
     clear HA HD1 HD
     simp only [ladder_Half.go] at H
     rw [show 31 - (31 - j) = j by omega] at H
     by_cases c5 : Go.bits .and .u64 a0 (IntKind.u64.wrap (2 ^ (31 - j))) = 0
     ·rw [if_pos c5] at H
      have c5b1 : (Go.bits .and .u64 a0 (IntKind.u64.wrap (2 ^ (31 - j))) != 0) = false:=bne_eq_false_iff_eq.mpr c5
      clear c5
      have H2:=Aside0.mk H
      clear H
      go_wp2
      go_roundg (31 - j)
      case measure => omega
      case rel => exact ⟨x4,j + 1,rfl,by go_num,⟨by omega⟩,by omega,H2,⟨bA⟩⟩
     ·rw [if_neg c5] at H
      have c5b1 : (Go.bits .and .u64 a0 (IntKind.u64.wrap (2 ^ (31 - j))) != 0) = true:=bne_iff_ne.mpr c5
      clear c5
      obtain ⟨⟨p1,p2⟩,A130,H⟩:=Option.bind_eq_some_iff.mp H
      have A13:=Aside0.mk A130
      have H2:=Aside0.mk H
      clear A130 H
      go_wp2_with (first | ((with_reducible refine gate_callee (f:=42) rfl ?_);refine goesL_ (some 23) rfl rfl Tryd.func42 (by kernel_rfl) rfl #[.int .u64 x4,.int .u64 (rd rungsL (j : Int))] rfl aA ?_;(with_reducible refine (wide_Mul.calls x4 (rd rungsL (j : Int)) p1 p2 _ A13.out).mono ?_);rintro e w15 ⟨rfl,hb⟩;refine ⟨_,rfl,?_⟩;have n1_:=Am (below_step bA hb);clear HB;have HB:=n1_;clear n1_ hb hc))
      go_roundg (31 - j)
      case measure => omega
      case rel => exact ⟨p1,j + 1,rfl,by go_num,⟨by omega⟩,by omega,H2,⟨bA⟩⟩
  ·rw [if_neg c3] at H
   cases H

end Go.Proofs.YtbhijfbjdbjpbaaDoor.GSH
namespace Go.Proofs.YtbhijfbjdbjpbaaDoor.Q
open Go.RowKit Go.Proofs.YtbhijfbjdbjpbaaDoor.GSH Go.Proofs.YtbhijfbjdbjpbaaDoorW.PrintWords Go.Proofs.YtbhijfbjdbjpbaaDoorW.PrintLast Go.Proofs.YtbhijfbjdbjpbaaDoorW.PrintMore
/-- How many bits the bytes have,as the library's table tells it. -/
def lenTab : ByteArray:=⟨#[0,1,2,2,3,3,3,3,4,4,4,4,4,4,4,4,5,5,5,5,5,5,5,5,5,5,5,5,5,5,5,5,6,6,6,6,6,6,6,6,6,6,6,6,6,6,6,6,6,6,6,6,6,6,6,6,6,6,6,6,6,6,6,6,7,7,7,7,7,7,7,7,7,7,7,7,7,7,7,7,7,7,7,7,7,7,7,7,7,7,7,7,7,7,7,7,7,7,7,7,7,7,7,7,7,7,7,7,7,7,7,7,7,7,7,7,7,7,7,7,7,7,7,7,7,7,7,7,8,8,8,8,8,8,8,8,8,8,8,8,8,8,8,8,8,8,8,8,8,8,8,8,8,8,8,8,8,8,8,8,8,8,8,8,8,8,8,8,8,8,8,8,8,8,8,8,8,8,8,8,8,8,8,8,8,8,8,8,8,8,8,8,8,8,8,8,8,8,8,8,8,8,8,8,8,8,8,8,8,8,8,8,8,8,8,8,8,8,8,8,8,8,8,8,8,8,8,8,8,8,8,8,8,8,8,8,8,8,8,8,8,8,8,8,8,8,8,8,8,8,8,8,8,8,8,8]⟩
theorem lenTab_nat : ∀ i : Fin 256,i.val ≠ 0 → 1 ≤ (bt lenTab (i.val : Int)).toNat ∧ (bt lenTab (i.val : Int)).toNat ≤ 8 ∧ 2 ^ ((bt lenTab (i.val : Int)).toNat - 1) ≤ i.val ∧ i.val < 2 ^ (bt lenTab (i.val : Int)).toNat:=by decide +kernel
theorem lenTab_at {i : Int} (h0 : 0 < i) (h1 : i < 256) : ∃ n : Nat,bt lenTab i = (n : Int) ∧ 1 ≤ n ∧ n ≤ 8 ∧ 2 ^ (n - 1) ≤ i ∧ i < 2 ^ n:=by
  obtain ⟨m,rfl⟩:=Int.eq_ofNat_of_zero_le (Int.le_of_lt h0)
  have h:=lenTab_nat ⟨m,by omega⟩ (by simp;omega)
  have r:=bt_range lenTab (m : Int)
  refine ⟨(bt lenTab (m : Int)).toNat,by omega,h.1,h.2.1,?_,?_⟩
  · exact_mod_cast h.2.2.1
  · exact_mod_cast h.2.2.2
theorem len_pow {x y : Int} {n : Nat} (j : Nat) (hx : 2 ^ (n - 1) ≤ x / 2 ^ j) (hy : x / 2 ^ j < 2 ^ n) (hn : 1 ≤ n) : 2 ^ (n + j - 1) ≤ x ∧ x < 2 ^ (n + j):=by
  have p:=pow_pos_ j
  rw [Int.le_ediv_iff_mul_le p,← Int.pow_add] at hx
  rw [Int.ediv_lt_iff_lt_mul p,← Int.pow_add] at hy
  rw [show n + j - 1 = n - 1 + j by omega]
  exact ⟨hx,hy⟩
set_option maxRecDepth 100000 in
theorem len_j0 (k : Nat) (x0 x2 : Int) : bits_Len64.j0 (k + 1) x0 x2 = if x0 ≥ 65536 then (if (x0 / 65536) ≥ 256 then (if 0 ≤ (((x0 / 65536) / 256) % 256) then (if (((x0 / 65536) / 256) % 256) < 256 then (some (wrap64 ((wrap64 ((wrap64 (x2 + 16)) + 8)) + (wrap64 (bt lenTab (((x0 / 65536) / 256) % 256)))))) else (none)) else (none)) else (if 0 ≤ ((x0 / 65536) % 256) then (if ((x0 / 65536) % 256) < 256 then (some (wrap64 ((wrap64 (x2 + 16)) + (wrap64 (bt lenTab ((x0 / 65536) % 256)))))) else (none)) else (none))) else (if x0 ≥ 256 then (if 0 ≤ ((x0 / 256) % 256) then (if ((x0 / 256) % 256) < 256 then (some (wrap64 ((wrap64 (x2 + 8)) + (wrap64 (bt lenTab ((x0 / 256) % 256)))))) else (none)) else (none)) else (if 0 ≤ (x0 % 256) then (if (x0 % 256) < 256 then (some (wrap64 (x2 + (wrap64 (bt lenTab (x0 % 256)))))) else (none)) else (none))):=rfl
/-- 64 less the leading zeros. -/
theorem len64 {x : Int} (k : Nat) (hk : 1 ≤ k) (h0 : 0 < x) (h1 : x < 18446744073709551616) : ∃ n : Nat,bits_Len64.f k x = some (n : Int) ∧ 1 ≤ n ∧ n ≤ 64 ∧ 2 ^ (n - 1) ≤ x ∧ x < 2 ^ n:=by
  obtain ⟨k,rfl⟩ : ∃ m,k = m + 1:=⟨k - 1,by omega⟩
  have base : ∀ (z : Int) (c : Nat),0 < z → z < 4294967296 → c ≤ 32 → ∃ n : Nat,bits_Len64.j0 (k + 1) z (c : Int) = some ((n : Int) + (c : Int)) ∧ 1 ≤ n ∧ n ≤ 32 ∧ 2 ^ (n - 1) ≤ z ∧ z < 2 ^ n:=by
    intro z c hz0 hz1 hc
    rw [len_j0]
    by_cases a : z ≥ 65536
    · rw [if_pos a]
      by_cases b : z / 65536 ≥ 256
      · rw [if_pos b,if_pos (by omega),if_pos (by omega),show ((z / 65536) / 256) % 256 = z / 16777216 by omega]
        obtain ⟨n,hn,g1,g2,g3,g4⟩:=lenTab_at (i:=z / 16777216) (by omega) (by omega)
        rw [hn,wrap64_in (x:=(n : Int)) (by omega) (by omega),wrap64_in (x:=(c : Int) + 16) (by omega) (by omega),wrap64_in (x:=(c : Int) + 16 + 8) (by omega) (by omega),wrap64_in (by omega) (by omega)]
        have:=len_pow (y:=0) (x:=z) 24 (by simpa using g3) (by simpa using g4) g1
        exact ⟨n + 24,congrArg some (by omega),by omega,by omega,this.1,this.2⟩
      · rw [if_neg b,if_pos (by omega),if_pos (by omega),show (z / 65536) % 256 = z / 65536 by omega]
        obtain ⟨n,hn,g1,g2,g3,g4⟩:=lenTab_at (i:=z / 65536) (by omega) (by omega)
        rw [hn,wrap64_in (x:=(n : Int)) (by omega) (by omega),wrap64_in (x:=(c : Int) + 16) (by omega) (by omega),wrap64_in (by omega) (by omega)]
        have:=len_pow (y:=0) (x:=z) 16 (by simpa using g3) (by simpa using g4) g1
        exact ⟨n + 16,congrArg some (by omega),by omega,by omega,this.1,this.2⟩
    · rw [if_neg a]
      by_cases b : z ≥ 256
      · rw [if_pos b,if_pos (by omega),if_pos (by omega),show (z / 256) % 256 = z / 256 by omega]
        obtain ⟨n,hn,g1,g2,g3,g4⟩:=lenTab_at (i:=z / 256) (by omega) (by omega)
        rw [hn,wrap64_in (x:=(n : Int)) (by omega) (by omega),wrap64_in (x:=(c : Int) + 8) (by omega) (by omega),wrap64_in (by omega) (by omega)]
        have:=len_pow (y:=0) (x:=z) 8 (by simpa using g3) (by simpa using g4) g1
        exact ⟨n + 8,congrArg some (by omega),by omega,by omega,this.1,this.2⟩
      · rw [if_neg b,if_pos (by omega),if_pos (by omega),show z % 256 = z by omega]
        obtain ⟨n,hn,g1,g2,g3,g4⟩:=lenTab_at (i:=z) (by omega) (by omega)
        rw [hn,wrap64_in (x:=(n : Int)) (by omega) (by omega),wrap64_in (by omega) (by omega)]
        exact ⟨n,congrArg some (by omega),by omega,by omega,g3,g4⟩
  unfold bits_Len64.f
  by_cases a : x ≥ 4294967296
  · rw [if_pos a]
    obtain ⟨n,hn,g1,g2,g3,g4⟩:=base (x / 4294967296) 32 (by omega) (by omega) (by omega)
    have:=len_pow (y:=0) (x:=x) 32 (by simpa using g3) (by simpa using g4) g1
    exact ⟨n + 32,by rw [show (32 : Int) = ((32 : Nat) : Int) from rfl,hn];rfl,by omega,by omega,this.1,this.2⟩
  · rw [if_neg a]
    obtain ⟨n,hn,g1,g2,g3,g4⟩:=base x 0 (by omega) (by omega) (by omega)
    exact ⟨n,by rw [show (0 : Int) = ((0 : Nat) : Int) from rfl,hn];simp,by omega,by omega,g3,g4⟩
theorem lead64 {x : Int} (k : Nat) (hk : 1 ≤ k) (h0 : 0 < x) (h1 : x < 18446744073709551616) : ∃ s : Nat,bits_LeadingZeros64.f k x = some (s : Int) ∧ s ≤ 63 ∧ 9223372036854775808 ≤ x * 2 ^ s ∧ x * 2 ^ s < 18446744073709551616:=by
  obtain ⟨n,hn,g1,g2,g3,g4⟩:=len64 k hk h0 h1
  refine ⟨64 - n,?_,by omega,?_,?_⟩
  · unfold bits_LeadingZeros64.f
    rw [hn]
    simp only [Option.bind_some]
    rw [wrap64_in (by omega) (by omega)]
    congr 1
    omega
  · have e : (2 : Int) ^ (n - 1) * 2 ^ (64 - n) = 9223372036854775808:=by rw [← Int.pow_add,show n - 1 + (64 - n) = 63 by omega];rfl
    have:=Int.mul_le_mul_of_nonneg_right g3 (Int.le_of_lt (pow_pos_ (64 - n)))
    omega
  · have e : (2 : Int) ^ n * 2 ^ (64 - n) = 18446744073709551616:=by rw [← Int.pow_add,show n + (64 - n) = 64 by omega];rfl
    have:=Int.mul_lt_mul_of_pos_right g4 (pow_pos_ (64 - n))
    omega

/-- The first digit's loop comes to the digit. -/
theorem div_l0 {y y1 y0 u n x8 x14 : Int} {r : Option (Int × Int)} {m : Nat} (hr : ∀ k,m ≤ k → bits_Div64.j2 k y x8 y1 y0 u n x14 ((u * 4294967296 + n) / y) = r) (t : Nat) :
    ∀ (k : Nat) (q rh : Int),m + 2 * t + 2 ≤ k → Est y y1 y0 u n q rh → 4294967296 ≤ rh + (t : Int) * 2147483648 → bits_Div64.l0 k y x8 y1 y0 u n x14 q rh = r:=by
  induction t with
  | zero =>
    intro k q rh _ h ht
    have:=h.hr'
    omega
  | succ t ih =>
    intro k q rh hk h ht
    obtain ⟨k,rfl⟩ : ∃ m,k = m + 2:=⟨k - 2,by omega⟩
    have step : ∀ b : Bool,(b = true → q ≥ 4294967296 ∨ q * y0 > 4294967296 * rh + n) → (b = false → ¬ q * y0 > 4294967296 * rh + n) → bits_Div64.j1 (k + 1) y x8 y1 y0 u n x14 q rh b = r:=by
      intro b b1 b2
      simp only [bits_Div64.j1]
      cases b with
      | true =>
        have c:=b1 rfl
        have hp:=h.q_pos c
        have:=h.q1;have:=h.hr;have:=h.hr';have:=h.h1;have:=h.h1'
        rw [if_pos rfl,w64_in (x:=rh + y1) (by omega) (by omega),w64_in (x:=q - 1) (by omega) (by omega)]
        by_cases d : rh + y1 ≥ 4294967296
        · rw [if_pos d,h.last c d]
          exact hr k (by omega)
        · rw [if_neg d]
          exact ih k _ _ (by omega) (h.next c (by omega)) (by omega)
      | false =>
        rw [if_neg (by decide),h.stop (b2 rfl)]
        exact hr k (by omega)
    simp only [bits_Div64.l0]
    by_cases c : q ≥ 4294967296
    · rw [if_pos c]
      exact step true (fun _ => .inl c) (fun h => by cases h)
    · rw [if_neg c]
      have g1:=h.qy0
      have g2 : q * y0 ≤ 4294967295 * y0:=Int.mul_le_mul_of_nonneg_right (by omega) h.h0
      have:=h.h0';have:=h.hr;have:=h.hr';have:=h.hn;have:=h.hn'
      rw [w64_in (x:=q * y0) (by omega) (by omega),w64_in (x:=4294967296 * rh) (by omega) (by omega),w64_in (x:=4294967296 * rh + n) (by omega) (by omega)]
      exact step _ (fun hb => .inr (of_decide_eq_true hb)) (fun hb => of_decide_eq_false hb)
/-- The second digit's loop comes to the digit,and to the end. -/
theorem div_l1 {y y1 y0 u n x15 : Int} (s : Nat) (hU : U y) (t : Nat) :
    ∀ (k : Nat) (q rh : Int),2 * t + 2 ≤ k → Est y y1 y0 u n q rh → 4294967296 ≤ rh + (t : Int) * 2147483648 →
      bits_Div64.l1 k y (s : Int) y1 y0 n x15 rh u q = some (IntKind.u64.wrap ((IntKind.u64.wrap (x15 * 4294967296)) + (u * 4294967296 + n) / y),shr .u64 ((u * 4294967296 + n) % y) (s : Int)):=by
  have rest : ∀ (q rh : Int),Est y y1 y0 u n q rh → IntKind.u64.wrap ((IntKind.u64.wrap ((IntKind.u64.wrap (u * 4294967296)) + n)) - (IntKind.u64.wrap ((u * 4294967296 + n) / y * y))) = (u * 4294967296 + n) % y:=by
    intro q rh h
    have e:=Int.mul_ediv_add_emod (u * 4294967296 + n) y
    rw [Int.mul_comm] at e
    have m0:=Int.emod_nonneg (u * 4294967296 + n) (show y ≠ 0 by have:=h.pos;omega)
    have m1:=Int.emod_lt_of_pos (u * 4294967296 + n) h.pos
    have:=hU.2
    simp only [w64]
    generalize (u * 4294967296 + n) / y * y = z at *
    omega
  induction t with
  | zero =>
    intro k q rh _ h ht
    have:=h.hr'
    omega
  | succ t ih =>
    intro k q rh hk h ht
    obtain ⟨k,rfl⟩ : ∃ m,k = m + 2:=⟨k - 2,by omega⟩
    have step : ∀ b : Bool,(b = true → q ≥ 4294967296 ∨ q * y0 > 4294967296 * rh + n) → (b = false → ¬ q * y0 > 4294967296 * rh + n) → bits_Div64.j4 (k + 1) y (s : Int) y1 y0 n x15 rh u q b = some (IntKind.u64.wrap ((IntKind.u64.wrap (x15 * 4294967296)) + (u * 4294967296 + n) / y),shr .u64 ((u * 4294967296 + n) % y) (s : Int)):=by
      intro b b1 b2
      simp only [bits_Div64.j4]
      cases b with
      | true =>
        have c:=b1 rfl
        have hp:=h.q_pos c
        have:=h.q1;have:=h.hr;have:=h.hr';have:=h.h1;have:=h.h1'
        rw [if_pos rfl,w64_in (x:=rh + y1) (by omega) (by omega),w64_in (x:=q - 1) (by omega) (by omega)]
        by_cases d : rh + y1 ≥ 4294967296
        · rw [if_pos d,if_pos (by omega),h.last c d,rest q rh h]
        · rw [if_neg d]
          exact ih k _ _ (by omega) (h.next c (by omega)) (by omega)
      | false =>
        rw [if_neg (by decide),if_pos (by omega)]
        have hq:=h.stop (b2 rfl)
        have hz:=rest q rh h
        rw [← hq] at hz ⊢
        rw [hz]
    simp only [bits_Div64.l1]
    by_cases c : q ≥ 4294967296
    · rw [if_pos c]
      exact step true (fun _ => .inl c) (fun h => by cases h)
    · rw [if_neg c]
      have g1:=h.qy0
      have g2 : q * y0 ≤ 4294967295 * y0:=Int.mul_le_mul_of_nonneg_right (by omega) h.h0
      have:=h.h0';have:=h.hr;have:=h.hr';have:=h.hn;have:=h.hn'
      rw [w64_in (x:=q * y0) (by omega) (by omega),w64_in (x:=4294967296 * rh) (by omega) (by omega),w64_in (x:=4294967296 * rh + n) (by omega) (by omega)]
      exact step _ (fun hb => .inr (of_decide_eq_true hb)) (fun hb => of_decide_eq_false hb)
end Go.Proofs.YtbhijfbjdbjpbaaDoor.Q
namespace Go.Proofs.YtbhijfbjdbjpbaaDoor.Q
open Go.RowKit Go.Proofs.YtbhijfbjdbjpbaaDoor.GSH Go.Proofs.YtbhijfbjdbjpbaaDoorW.PrintWords Go.Proofs.YtbhijfbjdbjpbaaDoorW.PrintLast Go.Proofs.YtbhijfbjdbjpbaaDoorW.PrintMore
theorem div_j2 {y y1 y0 u n1 n0 : Int} (s : Nat) (hU : U y) (hy : y = y1 * 4294967296 + y0) (h1 : 2147483648 ≤ y1) (h1' : y1 < 4294967296) (h0 : 0 ≤ y0) (h0' : y0 < 4294967296) (hu : 0 ≤ u) (hu' : u < y) (hn : 0 ≤ n1) (hn' : n1 < 4294967296) (hm : 0 ≤ n0) (hm' : n0 < 4294967296) :
    ∀ k,7 ≤ k → bits_Div64.j2 k y (s : Int) y1 y0 u n1 n0 ((u * 4294967296 + n1) / y) = some ((u * 18446744073709551616 + n1 * 4294967296 + n0) / y,shr .u64 ((u * 18446744073709551616 + n1 * 4294967296 + n0) % y) (s : Int)):=by
  intro k hk
  obtain ⟨k,rfl⟩ : ∃ m,k = m + 1:=⟨k - 1,by omega⟩
  simp only [bits_Div64.j2]
  have yp : 0 < y:=by omega
  have e:=Int.mul_ediv_add_emod (u * 4294967296 + n1) y
  rw [Int.mul_comm] at e
  have m0:=Int.emod_nonneg (u * 4294967296 + n1) (show y ≠ 0 by omega)
  have m1:=Int.emod_lt_of_pos (u * 4294967296 + n1) yp
  have q0 : 0 ≤ (u * 4294967296 + n1) / y:=Int.ediv_nonneg (by omega) (by omega)
  have q1 : (u * 4294967296 + n1) / y < 4294967296:=by rw [Int.ediv_lt_iff_lt_mul yp];omega
  have hU2:=hU.2
  have hun : IntKind.u64.wrap ((IntKind.u64.wrap ((IntKind.u64.wrap (u * 4294967296)) + n1)) - (IntKind.u64.wrap ((u * 4294967296 + n1) / y * y))) = (u * 4294967296 + n1) % y:=by
    simp only [w64]
    generalize (u * 4294967296 + n1) / y * y = z at *
    omega
  rw [if_neg (by omega),hun]
  generalize hR : (u * 4294967296 + n1) % y = R1 at *
  generalize hQ : (u * 4294967296 + n1) / y = Q1 at *
  have es:=Est.start (u:=R1) (n:=n0) hy h1 h1' h0 h0' m0 m1 hm hm'
  have d0 : 0 ≤ R1 / y1:=Int.ediv_nonneg m0 (by omega)
  have d1:=es.q1
  have dd : 0 ≤ R1 / y1 * y1:=Int.mul_nonneg d0 (by omega)
  have eq:=Int.mul_ediv_add_emod R1 y1
  rw [Int.mul_comm] at eq
  have r0:=Int.emod_nonneg R1 (show y1 ≠ 0 by omega)
  have r1:=Int.emod_lt_of_pos R1 (show 0 < y1 by omega)
  rw [tdiv_eq m0,w64_in (x:=R1 / y1) d0 (by omega),w64_in (x:=R1 / y1 * y1) (by omega) (by omega),w64_in (x:=R1 - R1 / y1 * y1) (by omega) (by omega)]
  rw [div_l1 s hU 2 k _ _ (by omega) es (by omega)]
  have z1 : (R1 * 4294967296 + n0) / y < 4294967296:=es.small
  have z0 : 0 ≤ (R1 * 4294967296 + n0) / y:=Int.ediv_nonneg (by omega) (by omega)
  have hW : u * 18446744073709551616 + n1 * 4294967296 + n0 = R1 * 4294967296 + n0 + Q1 * 4294967296 * y:=by
    rw [Int.mul_right_comm]
    omega
  rw [hW,Int.add_mul_ediv_right _ _ (by omega),Int.add_mul_emod_self_right]
  rw [w64_in (x:=Q1 * 4294967296) (by omega) (by omega),w64_in (by omega) (by omega),Int.add_comm]
theorem div64 {h l y : Int} (k : Nat) (hk : 20 ≤ k) (h1 : U h) (h2 : U l) (h3 : U y) (hlt : h < y) : bits_Div64.f k h l y = some (V h l / y,V h l % y):=by
  unfold bits_Div64.f
  obtain ⟨h1a,h1b⟩:=h1;obtain ⟨h2a,h2b⟩:=h2;obtain ⟨h3a,h3b⟩:=h3
  rw [if_neg (by omega),if_neg (by omega)]
  by_cases hz : h = 0
  · subst hz
    rw [if_pos rfl,tdiv_eq h2a,tmod_eq h2a]
    have : V 0 l = l:=by unfold V;omega
    rw [this]
    have d0 : 0 ≤ l / y:=Int.ediv_nonneg h2a (by omega)
    have d1 : l / y ≤ l:=Int.ediv_le_self y h2a
    rw [w64_in d0 (by omega)]
  · rw [if_neg hz]
    obtain ⟨s,hs,s1,s2,s3⟩:=lead64 (x:=y) k (by omega) (by omega) (by omega)
    rw [hs]
    simp only [Option.bind_some]
    have ps:=pow_pos_ s
    have hy2 : h * 2 ^ s ≤ (y - 1) * 2 ^ s:=Int.mul_le_mul_of_nonneg_right (by omega) (by omega)
    rw [Int.sub_mul] at hy2
    have hh0 : 0 ≤ h * 2 ^ s:=Int.mul_nonneg h1a (by omega)
    have dl:=div_lt_pow (x:=l) s (by omega) ⟨h2a,h2b⟩
    rw [w64_in (x:=(s : Int)) (by omega) (by omega),w64_in (x:=64 - (s : Int)) (by omega) (by omega)]
    rw [show 64 - (s : Int) = ((64 - s : Nat) : Int) by omega,if_pos (by omega),if_pos (by omega),shl_at s (by omega),shl_at s (by omega),shl_at s (by omega),shr_at (64 - s) (by omega)]
    rw [or_add s (umod _) (emod_pow s (by omega)) dl.1 dl.2 (by have:=pow_bd s (by omega);omega)]
    have eY : y * 2 ^ s % 18446744073709551616 = y * 2 ^ s:=by omega
    have eH : h * 2 ^ s % 18446744073709551616 = h * 2 ^ s:=by omega
    rw [eY,eH]
    have hW : V h l * 2 ^ s = (h * 2 ^ s + l / 2 ^ (64 - s)) * 18446744073709551616 + l * 2 ^ s % 18446744073709551616:=by
      have e1 : V h l * 2 ^ s = h * 2 ^ s * 18446744073709551616 + l * 2 ^ s:=by unfold V;rw [Int.add_mul,Int.mul_right_comm]
      have e2 : l * 2 ^ s / 18446744073709551616 = l / 2 ^ (64 - s):=by
        rw [← pow_split s (by omega),Int.mul_comm l,Int.mul_ediv_mul_of_pos _ _ ps]
      rw [e1]
      omega
    generalize hl : l * 2 ^ s % 18446744073709551616 = L at *
    have uL : 0 ≤ L ∧ L < 18446744073709551616:=by rw [← hl];omega
    generalize hu : h * 2 ^ s + l / 2 ^ (64 - s) = u at *
    generalize hY : y * 2 ^ s = Y at *
    have u0 : 0 ≤ u:=by omega
    have u1 : u < Y:=by omega
    rw [and32 ⟨by omega,s3⟩,and32 ⟨uL.1,uL.2⟩,if_neg (by omega)]
    have es:=Est.start (y:=Y) (y1:=Y / 4294967296) (y0:=Y % 4294967296) (u:=u) (n:=L / 4294967296) (by omega) (by omega) (by omega) (by omega) (by omega) u0 u1 (by omega) (by omega)
    have d0 : 0 ≤ u / (Y / 4294967296):=Int.ediv_nonneg u0 (by omega)
    have d1:=es.q1
    have dd : 0 ≤ u / (Y / 4294967296) * (Y / 4294967296):=Int.mul_nonneg d0 (by omega)
    have eq:=Int.mul_ediv_add_emod u (Y / 4294967296)
    rw [Int.mul_comm] at eq
    have r0:=Int.emod_nonneg u (show Y / 4294967296 ≠ 0 by omega)
    have r1:=Int.emod_lt_of_pos u (show 0 < Y / 4294967296 by omega)
    rw [tdiv_eq u0,w64_in (x:=u / (Y / 4294967296)) d0 (by omega),w64_in (x:=u / (Y / 4294967296) * (Y / 4294967296)) (by omega) (by omega),w64_in (x:=u - u / (Y / 4294967296) * (Y / 4294967296)) (by omega) (by omega)]
    rw [div_l0 (m:=7) (div_j2 s ⟨by omega,s3⟩ (by omega) (by omega) (by omega) (by omega) (by omega) u0 u1 (by omega) (by omega) (by omega) (by omega)) 2 k _ _ (by omega) es (by omega)]
    rw [show u * 18446744073709551616 + L / 4294967296 * 4294967296 + L % 4294967296 = V h l * 2 ^ s by rw [hW];omega,← hY,Int.mul_ediv_mul_of_pos_left _ _ ps]
    congr 2
    rw [shr_at s (by omega),Int.mul_comm (V h l),Int.mul_comm y,Int.mul_emod_mul_of_pos _ _ ps,Int.mul_ediv_cancel_left _ (by omega)]
theorem wdiv {ah al b : Int} (k : Nat) (hk : 20 ≤ k) (h1 : U ah) (h2 : U al) (hb : U b) (hb0 : b ≠ 0) :
    wide_Div.f k ah al b = some (V ah al / b / 18446744073709551616,V ah al / b % 18446744073709551616,V ah al % b,true):=by
  unfold wide_Div.f
  obtain ⟨h1a,h1b⟩:=h1;obtain ⟨h2a,h2b⟩:=h2;obtain ⟨hba,hbb⟩:=hb
  rw [if_neg hb0,tmod_eq h1a,tdiv_eq h1a]
  have m0:=Int.emod_nonneg ah hb0
  have m1:=Int.emod_lt_of_pos ah (show 0 < b by omega)
  have e:=Int.mul_ediv_add_emod ah b
  rw [Int.mul_comm] at e
  have d0 : 0 ≤ ah / b:=Int.ediv_nonneg h1a hba
  have d1 : ah / b ≤ ah:=Int.ediv_le_self b h1a
  rw [div64 k hk ⟨m0,by omega⟩ ⟨h2a,h2b⟩ ⟨hba,hbb⟩ m1]
  simp only [Option.bind_some]
  rw [w64_in d0 (by omega)]
  have hV : V ah al = V (ah % b) al + ah / b * 18446744073709551616 * b:=by
    unfold V
    rw [Int.mul_right_comm]
    omega
  have v0 : 0 ≤ V (ah % b) al / b:=Int.ediv_nonneg (by unfold V;omega) hba
  have v1 : V (ah % b) al / b < 18446744073709551616:=by
    rw [Int.ediv_lt_iff_lt_mul (by omega)]
    unfold V
    omega
  have e1 : V ah al / b = V (ah % b) al / b + ah / b * 18446744073709551616:=by rw [hV,Int.add_mul_ediv_right _ _ hb0]
  have e2 : V ah al % b = V (ah % b) al % b:=by rw [hV,Int.add_mul_emod_self_right]
  rw [e1,e2]
  congr 2
  · omega
  · congr 1
    omega
theorem wdiv0 {ah al : Int} (k : Nat) : wide_Div.f k ah al 0 = some (0,0,0,false):=by
  unfold wide_Div.f
  rw [if_pos rfl]
end Go.Proofs.YtbhijfbjdbjpbaaDoor.Q
namespace Go.Proofs.YtbhijfbjdbjpbaaDoor.GSH
open Go.RowKit Go.Proofs.YtbhijfbjdbjpbaaDoorW.PrintWords Go.Proofs.YtbhijfbjdbjpbaaDoorW.PrintLast Go.Proofs.YtbhijfbjdbjpbaaDoorW.PrintMore
attribute [local go_sem] max2_int min2_int max_two min_two max_three min_three max_four min_four   -- for this text's walks alone
set_option linter.unusedVariables false
set_option linter.unusedSimpArgs false
def wide_Shr.f (a0_0 : Int) (a0_1 : Int) (a1 : Int) : Option (Int × Int):=if a1 ≤ 0 then (some (a0_0,a0_1)) else (if a1 < 64 then (if 0 ≤ a1 then (if 0 ≤ (wrap64 (64 - a1)) then (some (shr .u64 a0_0 a1,Go.bits .or .u64 (shr .u64 a0_1 a1) (shl .u64 a0_0 (wrap64 (64 - a1))))) else (none)) else (none)) else (if a1 < 128 then (if 0 ≤ (wrap64 (a1 - 64)) then (some (0,shr .u64 a0_0 (wrap64 (a1 - 64)))) else (none)) else (some (0,0))))
def wide_Shr.T4 : Bool × List (List Nat × List Nat):=(true,[([],[]),([0],[0]),([],[]),([1,2],[1,2]),([],[]),([4],[4]),([],[]),([5,6],[5,6]),([],[]),([8],[8]),([],[]),([10],[10]),([9,11],[9,11]),([7,12],[7,12]),([3,13],[3,13]),([14,0,1,2,3,4,5,6,7,8,9,10,11,12,13,14],[14])])
def wide_Shr.B4 : List Nat:=[0,1,0,7,0,16,0,112,0,256,0,1024,3840,8176,16383,32767]
theorem wide_Shr.tab4 : rtab .any (opsOf Tryd.f45 4) = wide_Shr.T4:=by kernel_rfl
theorem wide_Shr.bits4 : waitsOk wide_Shr.T4.2 wide_Shr.B4 = true:=by kernel_rfl
set_option maxHeartbeats 8000000 in
set_option maxRecDepth 100000 in
theorem wide_Shr.calls (a0_0 : Int) (a0_1 : Int) (a1 : Int) (r1 : Int) (r2 : Int) (w : World) (h : wide_Shr.f a0_0 a0_1 a1 = some (r1,r2)) :
  Calls Tryd.prog 45 #[.agg #[.int .u64 a0_0,.int .u64 a0_1],.int .i64 a1] w fun e w' => e = .returned (.agg #[.int .u64 r1,.int .u64 r2]) ∧ Below w.heap.size w w':=by
 have hu76:=Tryd.underlying76
 have HB:=Am (Below.refl w.heap.size w)
 have H : (if a1 ≤ 0 then (some (a0_0,a0_1)) else (if a1 < 64 then (if 0 ≤ a1 then (if 0 ≤ (wrap64 (64 - a1)) then (some (shr .u64 a0_0 a1,Go.bits .or .u64 (shr .u64 a0_1 a1) (shl .u64 a0_0 (wrap64 (64 - a1))))) else (none)) else (none)) else (if a1 < 128 then (if 0 ≤ (wrap64 (a1 - 64)) then (some (0,shr .u64 a0_0 (wrap64 (a1 - 64)))) else (none)) else (some (0,0))))) = some (r1,r2):=h
 clear h
 by_cases c3 : a1 ≤ 0
 ·rw [if_pos c3] at H
  have c3b0 : decide (a1 ≤ 0) = true:=decide_eq_true c3
  clear c3
  simp only [Option.some.injEq,Prod.mk.injEq] at H
  obtain ⟨rfl,rfl⟩:=H
  go_enter Tryd.func45,Tryd.ntmps45
  go_wp2_with (first | ((with_reducible refine gate_dst (N:=2) rfl ?_);refine bxA 2 #[.int .u64 a0_0,.int .u64 a0_1] 76 ?_;intro gb220 hg w4 hbox hb;have n0_:=Am (below_step bA hb);have n1_:=Am (hbox);have n2_:=Am (gwA hg bA);have n3_:=Am (gwA hg bA);clear HB;have HB:=n0_;have BK220:=n1_;have GW220:=n2_;have GE220:=n3_;clear n0_ n1_ n2_ n3_ hb hbox hg) | ((with_reducible refine gate_dst (N:=4) rfl ?_);refine bxA 4 #[.int .u64 0,.int .u64 0] 76 ?_;intro gb221 hg w5 hbox hb;have n0_:=Am (blk_below (g:=gb220) kA hb);have n1_:=Am (below_step bA hb);have n2_:=Am (hbox);have n3_:=Am (gwA hg bA);have n4_:=Am (gwA hg bA);have n5_:=Am (neA (g:=gb220) hg kA);have n6_:=Am (neB (g:=gb220) hg kA);clear BK220 HB;have BK220:=n0_;have HB:=n1_;have BK221:=n2_;have GW221:=n3_;have GE221:=n4_;have NB220_221:=n5_;have NB221_220:=n6_;clear n0_ n1_ n2_ n3_ n4_ n5_ n6_ hb hbox hg;have hnb6:=NB220_221.out;have hnc6:=NB221_220.out;have hcz7_0 : w5.cell? ⟨gb220,0,none⟩ = some (.int .u64 a0_0):=(blk_cell BK220.out 0).trans rfl;have hcz7_1 : w5.cell? ⟨gb220,1,none⟩ = some (.int .u64 a0_1):=(blk_cell BK220.out 1).trans rfl;have hfz7_0:=blk_frozen BK220.out 0;have hfz7_1:=blk_frozen BK220.out 1;have hcz8_0 : w5.cell? ⟨gb221,0,none⟩ = some (.int .u64 0):=(blk_cell BK221.out 0).trans rfl;have hcz8_1 : w5.cell? ⟨gb221,1,none⟩ = some (.int .u64 0):=(blk_cell BK221.out 1).trans rfl;have hfz8_0:=blk_frozen BK221.out 0;have hfz8_1:=blk_frozen BK221.out 1))
  refine bodyPost_ret (results_cell_row rfl _ _ gb221 76 #[.int .u64 a0_0,.int .u64 a0_1] (0,0) _ rfl (by (with_reducible repeat (first | refine b1 ?_ _ | refine b2 ?_ | refine b3 ?_ _));refine blk_put (cs:=#[.int .u64 a0_0,.int .u64 0]) ?_ 1 _ rfl;(with_reducible repeat (first | refine b1 ?_ _ | refine b2 ?_ | refine b3 ?_ _));refine blk_put (cs:=#[.int .u64 0,.int .u64 0]) ?_ 0 _ rfl;exact kA) Tryd.underlying76 rfl (by kernel_rfl)) rfl ?_
  exact ⟨by first | rfl | (simp [errW_none,errW_some] <;> rfl) | (simp [*,errW_none,errW_some] <;> rfl),bA⟩
 ·rw [if_neg c3] at H
  have c3b0 : decide (a1 ≤ 0) = false:=decide_eq_false c3
  clear c3
  by_cases c9 : a1 < 64
  ·rw [if_pos c9] at H
   have c9b0 : decide (a1 < 64) = true:=decide_eq_true c9
   clear c9
   by_cases c10 : 0 ≤ a1
   ·rw [if_pos c10] at H
    have c10b0:=eq_true c10
    have c10b1 : decide (0 ≤ a1) = true:=decide_eq_true c10
    clear c10
    obtain ⟨ji11,hji11⟩ : ∃ j_ : Int,(shr .u64 a0_0 a1) = j_:=⟨_,rfl⟩
    replace H : (if 0 ≤ (wrap64 (64 - a1)) then (some (ji11,Go.bits .or .u64 (shr .u64 a0_1 a1) (shl .u64 a0_0 (wrap64 (64 - a1))))) else (none)) = some (r1,r2):=by first | (rw [hji11] at H;exact H) | (simp only [hji11] at H ⊢;exact H)
    have hji11_ : (a0_0 / 2 ^ min a1.toNat 64) = ji11:=hji11
    have hji11z : a1 ≤ 64 → (a0_0 / 2 ^ a1.toNat) = ji11:=shr_small hji11
    have c12b0:=eq_true (of_decide_eq_true (by first | (with_reducible assumption) | assumption) : 0 ≤ a1)
    obtain ⟨ji13,hji13⟩ : ∃ j_ : Int,(shr .u64 a0_1 a1) = j_:=⟨_,rfl⟩
    replace H : (if 0 ≤ (wrap64 (64 - a1)) then (some (ji11,Go.bits .or .u64 (ji13) (shl .u64 a0_0 (wrap64 (64 - a1))))) else (none)) = some (r1,r2):=by first | (rw [hji13] at H;exact H) | (simp only [hji13] at H ⊢;exact H)
    have hji13_ : (a0_1 / 2 ^ min a1.toNat 64) = ji13:=hji13
    have hji13z : a1 ≤ 64 → (a0_1 / 2 ^ a1.toNat) = ji13:=shr_small hji13
    obtain ⟨ji14,hji14⟩ : ∃ j_ : Int,(wrap64 (64 - a1)) = j_:=⟨_,rfl⟩
    replace H : (if 0 ≤ (ji14) then (some (ji11,Go.bits .or .u64 (ji13) (shl .u64 a0_0 (ji14)))) else (none)) = some (r1,r2):=by first | (rw [hji14] at H;exact H) | (simp only [hji14] at H ⊢;exact H)
    have hji14w : (IntKind.i64.wrap (64 - a1)) = ji14:=(i64_w _).trans hji14
    by_cases c15 : 0 ≤ (ji14)
    ·rw [if_pos c15] at H
     have c15b0:=eq_true c15
     have c15b1 : decide (0 ≤ (ji14)) = true:=decide_eq_true c15
     clear c15
     obtain ⟨ji16,hji16⟩ : ∃ j_ : Int,(shl .u64 a0_0 (ji14)) = j_:=⟨_,rfl⟩
     replace H : (some (ji11,Go.bits .or .u64 (ji13) (ji16))) = some (r1,r2):=by first | (rw [hji16] at H;exact H) | (simp only [hji16] at H ⊢;exact H)
     have hji16_ : (IntKind.u64.wrap (a0_0 * 2 ^ min (ji14).toNat 64)) = ji16:=hji16
     have hji16z : (ji14) ≤ 64 → (IntKind.u64.wrap (a0_0 * 2 ^ (ji14).toNat)) = ji16:=shl_small hji16
     simp only [Option.some.injEq,Prod.mk.injEq] at H
     obtain ⟨rfl,rfl⟩:=H
     go_enter Tryd.func45,Tryd.ntmps45
     try go_wp2_with (first | ((with_reducible refine gate_dst (N:=2) rfl ?_);refine bxA 2 #[.int .u64 a0_0,.int .u64 a0_1] 76 ?_;intro gb220 hg w17 hbox hb;have n0_:=Am (below_step bA hb);have n1_:=Am (hbox);have n2_:=Am (gwA hg bA);have n3_:=Am (gwA hg bA);clear HB;have HB:=n0_;have BK220:=n1_;have GW220:=n2_;have GE220:=n3_;clear n0_ n1_ n2_ n3_ hb hbox hg) | ((with_reducible refine gate_dst (N:=4) rfl ?_);refine bxA 4 #[.int .u64 0,.int .u64 0] 76 ?_;intro gb221 hg w18 hbox hb;have n0_:=Am (blk_below (g:=gb220) kA hb);have n1_:=Am (below_step bA hb);have n2_:=Am (hbox);have n3_:=Am (gwA hg bA);have n4_:=Am (gwA hg bA);have n5_:=Am (neA (g:=gb220) hg kA);have n6_:=Am (neB (g:=gb220) hg kA);clear BK220 HB;have BK220:=n0_;have HB:=n1_;have BK221:=n2_;have GW221:=n3_;have GE221:=n4_;have NB220_221:=n5_;have NB221_220:=n6_;clear n0_ n1_ n2_ n3_ n4_ n5_ n6_ hb hbox hg))
     have n0_:=Am (blk_drew BK220.out);have n1_:=Am (blk_drew BK221.out);have n2_:=Am (below_drew1 HB.out);clear BK220 BK221 HB;have BK220:=n0_;have BK221:=n1_;have HB:=n2_;clear n0_ n1_ n2_
     refine start_ (n:=16) (S:=fun w' => w'.cell? ⟨gb220,0,none⟩ = some (.int .u64 a0_0) ∧ w'.cell? ⟨gb220,1,none⟩ = some (.int .u64 a0_1)) (ds:=[]) #[nn,nn,nn,nn,nn,nn,nn,nn,nn,nn,nn,nn,nn,nn,nn,nn] (by kernel_rfl) rfl rfl ⟨(blk_cell BK220.out 0).trans rfl,(blk_cell BK220.out 1).trans rfl⟩ (fun hHeld => ?_);refine with_tabW wide_Shr.tab4 wide_Shr.bits4 (fun HT_ HW_ => ?_)
     generalize w18.drew = w19 at BK220 BK221 HB hHeld ⊢
     refine pure_ (i:=0) (N:=some 12) (v:=?_) (a':=?_) #[yy,nn,nn,nn,nn,nn,nn,nn,nn,nn,nn,nn,nn,nn,nn,nn] rfl rfl (any_of HT_.out (by kernel_rfl)) (fun _ _ _ h => h) (Or.inl ⟨by rfl,?_⟩) ?_ ?_
     rotate_left
     ·intro w'
      go_simp;with_reducible rfl
     rotate_left
     ·simp only [NR]
      rfl
     refine pure_ (i:=2) (N:=some 14) (v:=?_) (a':=?_) #[yy,nn,yy,nn,nn,nn,nn,nn,nn,nn,nn,nn,nn,nn,nn,nn] rfl rfl (any_of HT_.out (by kernel_rfl)) (fun _ _ _ h => h) (Or.inl ⟨by rfl,?_⟩) ?_ ?_
     rotate_left
     ·intro w'
      go_simp;with_reducible rfl
     rotate_left
     ·simp only [NR]
      rfl
     refine pure_ (i:=4) (N:=some 16) (v:=?_) (a':=?_) #[yy,nn,yy,nn,yy,nn,nn,nn,nn,nn,nn,nn,nn,nn,nn,nn] rfl rfl (any_of HT_.out (by kernel_rfl)) (fun _ _ _ h => h) (Or.inl ⟨by rfl,?_⟩) ?_ ?_
     rotate_left
     ·intro w'
      go_simp;with_reducible rfl
     rotate_left
     ·simp only [NR]
      rfl
     refine pure_ (i:=6) (N:=some 18) (v:=?_) (a':=?_) #[yy,nn,yy,nn,yy,nn,yy,nn,nn,nn,nn,nn,nn,nn,nn,nn] rfl rfl (any_of HT_.out (by kernel_rfl)) (fun _ _ _ h => h) (Or.inl ⟨by rfl,?_⟩) ?_ ?_
     rotate_left
     ·intro w'
      go_simp;with_reducible rfl
     rotate_left
     ·simp only [NR]
      rfl
     refine pure_ (i:=8) (N:=some 20) (v:=?_) (a':=?_) #[yy,nn,yy,nn,yy,nn,yy,nn,yy,nn,nn,nn,nn,nn,nn,nn] rfl rfl (any_of HT_.out (by kernel_rfl)) (fun _ _ _ h => h) (Or.inl ⟨by rfl,?_⟩) ?_ ?_
     rotate_left
     ·intro w'
      go_simp;with_reducible rfl
     rotate_left
     ·simp only [NR]
      rfl
     refine pure_ (i:=10) (N:=some 22) (v:=?_) (a':=?_) #[yy,nn,yy,nn,yy,nn,yy,nn,yy,nn,yy,nn,nn,nn,nn,nn] rfl rfl (any_of HT_.out (by kernel_rfl)) (fun _ _ _ h => h) (Or.inl ⟨by rfl,?_⟩) ?_ ?_
     rotate_left
     ·intro w'
      go_simp;with_reducible rfl
     rotate_left
     ·simp only [NR]
      rfl
     refine pure_ (i:=11) (N:=some 23) (v:=?_) (a':=?_) #[yy,nn,yy,nn,yy,nn,yy,nn,yy,nn,yy,yy,nn,nn,nn,nn] rfl rfl (any_of HT_.out (by kernel_rfl)) (fun _ _ _ h => h) (Or.inl ⟨by rfl,?_⟩) ?_ ?_
     rotate_left
     ·intro w'
      go_simp;with_reducible rfl
     rotate_left
     ·simp only [NR]
      rfl
     refine take_ (i:=1) (N:=some 13) (v:=?_) (a':=?_) #[yy,yy,yy,nn,yy,nn,yy,nn,yy,nn,yy,yy,nn,nn,nn,nn] rfl rfl (take_ofW HT_.out HW_.out (by kernel_rfl)) (fun _ _ _ h => h) (Or.inl ⟨by rfl,?_⟩) hHeld ?_ ?_
     rotate_left
     ·rintro w' ⟨s0,s1⟩
      go_simp;with_reducible rfl
     rotate_left
     ·simp only [NR]
      rfl
     refine pure_ (i:=3) (N:=some 15) (v:=?_) (a':=?_) #[yy,yy,yy,yy,yy,nn,yy,nn,yy,nn,yy,yy,nn,nn,nn,nn] rfl rfl (any_of HT_.out (by kernel_rfl)) (fun _ _ _ h => h) (Or.inl ⟨by rfl,?_⟩) ?_ ?_
     rotate_left
     ·intro w'
      go_simp;with_reducible rfl
     rotate_left
     ·simp only [NR]
      rfl
     refine take_ (i:=5) (N:=some 17) (v:=?_) (a':=?_) #[yy,yy,yy,yy,yy,yy,yy,nn,yy,nn,yy,yy,nn,nn,nn,nn] rfl rfl (take_ofW HT_.out HW_.out (by kernel_rfl)) (fun _ _ _ h => h) (Or.inl ⟨by rfl,?_⟩) hHeld ?_ ?_
     rotate_left
     ·rintro w' ⟨s0,s1⟩
      go_simp;with_reducible rfl
     rotate_left
     ·simp only [NR]
      rfl
     refine pure_ (i:=7) (N:=some 19) (v:=?_) (a':=?_) #[yy,yy,yy,yy,yy,yy,yy,yy,yy,nn,yy,yy,nn,nn,nn,nn] rfl rfl (any_of HT_.out (by kernel_rfl)) (fun _ _ _ h => h) (Or.inl ⟨by rfl,?_⟩) ?_ ?_
     rotate_left
     ·intro w'
      go_simp;with_reducible rfl
     rotate_left
     ·simp only [NR]
      rfl
     refine take_ (i:=9) (N:=some 21) (v:=?_) (a':=?_) #[yy,yy,yy,yy,yy,yy,yy,yy,yy,yy,yy,yy,nn,nn,nn,nn] rfl rfl (take_ofW HT_.out HW_.out (by kernel_rfl)) (fun _ _ _ h => h) (Or.inl ⟨by rfl,?_⟩) hHeld ?_ ?_
     rotate_left
     ·rintro w' ⟨s0,s1⟩
      go_simp;with_reducible rfl
     rotate_left
     ·simp only [NR]
      rfl
     refine pure_ (i:=12) (N:=some 24) (v:=?_) (a':=?_) #[yy,yy,yy,yy,yy,yy,yy,yy,yy,yy,yy,yy,yy,nn,nn,nn] rfl rfl (any_of HT_.out (by kernel_rfl)) (fun _ _ _ h => h) (Or.inl ⟨by rfl,?_⟩) ?_ ?_
     rotate_left
     ·intro w'
      go_simp;with_reducible rfl
     rotate_left
     ·simp only [NR]
      rfl
     refine pure_ (i:=13) (N:=some 25) (v:=?_) (a':=?_) #[yy,yy,yy,yy,yy,yy,yy,yy,yy,yy,yy,yy,yy,yy,nn,nn] rfl rfl (any_of HT_.out (by kernel_rfl)) (fun _ _ _ h => h) (Or.inl ⟨by rfl,?_⟩) ?_ ?_
     rotate_left
     ·intro w'
      go_simp;with_reducible rfl
     rotate_left
     ·simp only [NR]
      rfl
     refine pure_ (i:=14) (N:=some 26) (v:=?_) (a':=?_) #[yy,yy,yy,yy,yy,yy,yy,yy,yy,yy,yy,yy,yy,yy,yy,nn] rfl rfl (any_of HT_.out (by kernel_rfl)) (fun _ _ _ h => h) (Or.inl ⟨by rfl,?_⟩) ?_ ?_
     rotate_left
     ·intro w'
      go_simp;with_reducible rfl
     rotate_left
     ·simp only [NR]
      rfl
     refine one_ (i:=15) (N:=none) #[yy,yy,yy,yy,yy,yy,yy,yy,yy,yy,yy,yy,yy,yy,yy,yy] rfl rfl (one_of HT_.out (by kernel_rfl)) (by decide) (fun K hK => ?_)
     have hs20 : w19.cell? ⟨gb221,0,none⟩ = some (.int .u64 0):=(blk_cell BK221.out 0).trans rfl
     have hfs20:=blk_frozen BK221.out 0
     have hns20_0:=NB220_221.out
     have hms20_0:=NB221_220.out
     have hs21 : w19.cell? ⟨gb221,1,none⟩ = some (.int .u64 0):=(blk_cell BK221.out 1).trans rfl
     have hfs21:=blk_frozen BK221.out 1
     have hns21_0:=NB220_221.out
     have hms21_0:=NB221_220.out
     refine skip_ (w1:=?_) (by rfl) rfl ?_ ?_
     rotate_left
     ·go_simp
      rfl
     refine hK.out _ _ ⟨((cell_far (p:=⟨gb221,_,none⟩) NB220_221.out _).trans (((cell_far (p:=⟨gb221,_,none⟩) NB220_221.out _).trans (hHeld.1)))),((cell_far (p:=⟨gb221,_,none⟩) NB220_221.out _).trans (((cell_far (p:=⟨gb221,_,none⟩) NB220_221.out _).trans (hHeld.2))))⟩ (fun hHeld => ?_)
     clear hK K
     refine done_ (done_of HT_.out (by kernel_rfl)) ?_
     try go_wp2
     refine bodyPost_ret (results_cell_row rfl _ _ gb221 76 #[.int .u64 ji11,.int .u64 (Go.bits .or .u64 (ji13) (ji16))] (0,0) _ rfl (by (with_reducible repeat (first | refine b1 ?_ _ | refine b2 ?_ | refine b3 ?_ _));refine blk_put (cs:=#[.int .u64 ji11,.int .u64 0]) ?_ 1 _ rfl;(with_reducible repeat (first | refine b1 ?_ _ | refine b2 ?_ | refine b3 ?_ _));refine blk_put (cs:=#[.int .u64 0,.int .u64 0]) ?_ 0 _ rfl;exact kA) Tryd.underlying76 rfl (by kernel_rfl)) rfl ?_
     exact ⟨by first | rfl | (simp [errW_none,errW_some] <;> rfl) | (simp only [← hji11,← hji13,← hji14,← hji16];first | rfl | (simp [errW_none,errW_some] <;> rfl)) | (simp [*,errW_none,errW_some] <;> rfl),bA⟩
    ·rw [if_neg c15] at H
     exact absurd H (by simp)
   ·rw [if_neg c10] at H
    exact absurd H (by simp)
  ·rw [if_neg c9] at H
   have c9b0 : decide (a1 < 64) = false:=decide_eq_false c9
   clear c9
   by_cases c22 : a1 < 128
   ·rw [if_pos c22] at H
    have c22b0 : decide (a1 < 128) = true:=decide_eq_true c22
    clear c22
    obtain ⟨ji23,hji23⟩ : ∃ j_ : Int,(wrap64 (a1 - 64)) = j_:=⟨_,rfl⟩
    replace H : (if 0 ≤ (ji23) then (some (0,shr .u64 a0_0 (ji23))) else (none)) = some (r1,r2):=by first | (rw [hji23] at H;exact H) | (simp only [hji23] at H ⊢;exact H)
    have hji23w : (IntKind.i64.wrap (a1 - 64)) = ji23:=(i64_w _).trans hji23
    by_cases c24 : 0 ≤ (ji23)
    ·rw [if_pos c24] at H
     have c24b0:=eq_true c24
     have c24b1 : decide (0 ≤ (ji23)) = true:=decide_eq_true c24
     clear c24
     obtain ⟨ji25,hji25⟩ : ∃ j_ : Int,(shr .u64 a0_0 (ji23)) = j_:=⟨_,rfl⟩
     replace H : (some (0,ji25)) = some (r1,r2):=by first | (rw [hji25] at H;exact H) | (simp only [hji25] at H ⊢;exact H)
     have hji25_ : (a0_0 / 2 ^ min (ji23).toNat 64) = ji25:=hji25
     have hji25z : (ji23) ≤ 64 → (a0_0 / 2 ^ (ji23).toNat) = ji25:=shr_small hji25
     simp only [Option.some.injEq,Prod.mk.injEq] at H
     obtain ⟨rfl,rfl⟩:=H
     go_enter Tryd.func45,Tryd.ntmps45
     go_wp2_with (first | ((with_reducible refine gate_dst (N:=2) rfl ?_);refine bxA 2 #[.int .u64 a0_0,.int .u64 a0_1] 76 ?_;intro gb220 hg w26 hbox hb;have n0_:=Am (below_step bA hb);have n1_:=Am (hbox);have n2_:=Am (gwA hg bA);have n3_:=Am (gwA hg bA);clear HB;have HB:=n0_;have BK220:=n1_;have GW220:=n2_;have GE220:=n3_;clear n0_ n1_ n2_ n3_ hb hbox hg) | ((with_reducible refine gate_dst (N:=4) rfl ?_);refine bxA 4 #[.int .u64 0,.int .u64 0] 76 ?_;intro gb221 hg w27 hbox hb;have n0_:=Am (blk_below (g:=gb220) kA hb);have n1_:=Am (below_step bA hb);have n2_:=Am (hbox);have n3_:=Am (gwA hg bA);have n4_:=Am (gwA hg bA);have n5_:=Am (neA (g:=gb220) hg kA);have n6_:=Am (neB (g:=gb220) hg kA);clear BK220 HB;have BK220:=n0_;have HB:=n1_;have BK221:=n2_;have GW221:=n3_;have GE221:=n4_;have NB220_221:=n5_;have NB221_220:=n6_;clear n0_ n1_ n2_ n3_ n4_ n5_ n6_ hb hbox hg;have hnb28:=NB220_221.out;have hnc28:=NB221_220.out;have hcz29_0 : w27.cell? ⟨gb220,0,none⟩ = some (.int .u64 a0_0):=(blk_cell BK220.out 0).trans rfl;have hcz29_1 : w27.cell? ⟨gb220,1,none⟩ = some (.int .u64 a0_1):=(blk_cell BK220.out 1).trans rfl;have hfz29_0:=blk_frozen BK220.out 0;have hfz29_1:=blk_frozen BK220.out 1;have hcz30_0 : w27.cell? ⟨gb221,0,none⟩ = some (.int .u64 0):=(blk_cell BK221.out 0).trans rfl;have hcz30_1 : w27.cell? ⟨gb221,1,none⟩ = some (.int .u64 0):=(blk_cell BK221.out 1).trans rfl;have hfz30_0:=blk_frozen BK221.out 0;have hfz30_1:=blk_frozen BK221.out 1))
     refine bodyPost_ret (results_cell_row rfl _ _ gb221 76 #[.int .u64 0,.int .u64 ji25] (0,0) _ rfl (by (with_reducible repeat (first | refine b1 ?_ _ | refine b2 ?_ | refine b3 ?_ _));refine blk_put (cs:=#[.int .u64 0,.int .u64 0]) ?_ 1 _ rfl;(with_reducible repeat (first | refine b1 ?_ _ | refine b2 ?_ | refine b3 ?_ _));refine blk_put (cs:=#[.int .u64 0,.int .u64 0]) ?_ 0 _ rfl;exact kA) Tryd.underlying76 rfl (by kernel_rfl)) rfl ?_
     exact ⟨by first | rfl | (simp [errW_none,errW_some] <;> rfl) | (simp only [← hji23,← hji25];first | rfl | (simp [errW_none,errW_some] <;> rfl)) | (simp [*,errW_none,errW_some] <;> rfl),bA⟩
    ·rw [if_neg c24] at H
     exact absurd H (by simp)
   ·rw [if_neg c22] at H
    have c22b0 : decide (a1 < 128) = false:=decide_eq_false c22
    clear c22
    simp only [Option.some.injEq,Prod.mk.injEq] at H
    obtain ⟨rfl,rfl⟩:=H
    go_enter Tryd.func45,Tryd.ntmps45
    go_wp2_with (first | ((with_reducible refine gate_dst (N:=2) rfl ?_);refine bxA 2 #[.int .u64 a0_0,.int .u64 a0_1] 76 ?_;intro gb220 hg w31 hbox hb;have n0_:=Am (below_step bA hb);have n1_:=Am (hbox);have n2_:=Am (gwA hg bA);have n3_:=Am (gwA hg bA);clear HB;have HB:=n0_;have BK220:=n1_;have GW220:=n2_;have GE220:=n3_;clear n0_ n1_ n2_ n3_ hb hbox hg) | ((with_reducible refine gate_dst (N:=4) rfl ?_);refine bxA 4 #[.int .u64 0,.int .u64 0] 76 ?_;intro gb221 hg w32 hbox hb;have n0_:=Am (blk_below (g:=gb220) kA hb);have n1_:=Am (below_step bA hb);have n2_:=Am (hbox);have n3_:=Am (gwA hg bA);have n4_:=Am (gwA hg bA);have n5_:=Am (neA (g:=gb220) hg kA);have n6_:=Am (neB (g:=gb220) hg kA);clear BK220 HB;have BK220:=n0_;have HB:=n1_;have BK221:=n2_;have GW221:=n3_;have GE221:=n4_;have NB220_221:=n5_;have NB221_220:=n6_;clear n0_ n1_ n2_ n3_ n4_ n5_ n6_ hb hbox hg;have hnb33:=NB221_220.out;have hnc33:=NB220_221.out;have hcz34_0 : w32.cell? ⟨gb221,0,none⟩ = some (.int .u64 0):=(blk_cell BK221.out 0).trans rfl;have hcz34_1 : w32.cell? ⟨gb221,1,none⟩ = some (.int .u64 0):=(blk_cell BK221.out 1).trans rfl;have hfz34_0:=blk_frozen BK221.out 0;have hfz34_1:=blk_frozen BK221.out 1))
    refine bodyPost_ret (results_cell_row rfl _ _ gb221 76 #[.int .u64 0,.int .u64 0] (0,0) _ rfl (by (with_reducible repeat (first | refine b1 ?_ _ | refine b2 ?_ | refine b3 ?_ _));refine blk_put (cs:=#[.int .u64 0,.int .u64 0]) ?_ 1 _ rfl;(with_reducible repeat (first | refine b1 ?_ _ | refine b2 ?_ | refine b3 ?_ _));refine blk_put (cs:=#[.int .u64 0,.int .u64 0]) ?_ 0 _ rfl;exact kA) Tryd.underlying76 rfl (by kernel_rfl)) rfl ?_
    exact ⟨by first | rfl | (simp [errW_none,errW_some] <;> rfl) | (simp [*,errW_none,errW_some] <;> rfl),bA⟩

mutual
def share_exponent.j0 : Nat → Int → Int → Int → Option (Int)
 | 0,_,_,_ => none
 | k + 1,x0,x1,x2 => (wide_Mul.f x0 x2).bind fun bt227 => ((wide_Div.f k bt227.1 bt227.2 x1).bind fun bt229 => ((wide_Shr.f bt229.1 bt229.2.1 31).bind fun bt234 => (if bt229.2.2.1 > 0 then (share_exponent.j1 k true bt234.1 bt234.2) else (share_exponent.j1 k (decide ((IntKind.u64.wrap (bt229.2.1 * 8589934592)) > 0)) bt234.1 bt234.2))))
def share_exponent.j1 : Nat → Bool → Int → Int → Option (Int)
 | 0,_,_,_ => none
 | k + 1,x35,x237000,x237001 => if x35 = true then ((wide_Of.f 1).bind fun bt237 => ((wide_Add.f x237000 x237001 bt237.1 bt237.2).bind fun bt239 => (if bt239.1 > 0 then (some 18446744073709551615) else (some bt239.2.1)))) else (if x237000 > 0 then (some 18446744073709551615) else (some x237001))
end
def share_exponent.f (k : Nat) (a0 : Int) (a1 : Int) (a2 : Int) : Option (Int):=(wide_Mul.f a1 4096).bind fun bt222 => ((wide_Of.f a2).bind fun bt224 => ((wide_Cmp.f bt222.1 bt222.2 bt224.1 bt224.2).bind fun t226 => (if t226 < 0 then (share_exponent.j0 k a0 1 4096) else (share_exponent.j0 k a0 a1 a2))))
set_option maxHeartbeats 8000000 in
set_option maxRecDepth 100000 in
theorem share_exponent.calls (k : Nat) (a0 : Int) (a1 : Int) (a2 : Int) (r : Int) (w : World) (h : share_exponent.f k a0 a1 a2 = some r) :
  Calls Tryd.prog 24 #[.int .u64 a0,.int .u64 a1,.int .u64 a2] w fun e w' => e = .returned (.int .u64 r) ∧ Below w.heap.size w w':=by
 have hu76:=Tryd.underlying76
 have HB:=Am (Below.refl w.heap.size w)
 have H : ((wide_Mul.f a1 4096).bind fun bt222 => ((wide_Of.f a2).bind fun bt224 => ((wide_Cmp.f bt222.1 bt222.2 bt224.1 bt224.2).bind fun t226 => (if t226 < 0 then (share_exponent.j0 k a0 1 4096) else (share_exponent.j0 k a0 a1 a2))))) = some r:=h
 clear h;replace H:=Option.bind_eq_some_iff.mp H;obtain ⟨⟨t222,t223⟩,A40,H⟩:=H;replace H : ((wide_Of.f a2).bind fun bt224 => ((wide_Cmp.f t222 t223 bt224.1 bt224.2).bind fun t226 => (if t226 < 0 then (share_exponent.j0 k a0 1 4096) else (share_exponent.j0 k a0 a1 a2)))) = some r:=H;have A4:=Aside0.mk A40;clear A40;replace H:=Option.bind_eq_some_iff.mp H;obtain ⟨⟨t224,t225⟩,A50,H⟩:=H;replace H : ((wide_Cmp.f t222 t223 t224 t225).bind fun t226 => (if t226 < 0 then (share_exponent.j0 k a0 1 4096) else (share_exponent.j0 k a0 a1 a2))) = some r:=H;have A5:=Aside0.mk A50;clear A50;replace H:=Option.bind_eq_some_iff.mp H;obtain ⟨t226,A60,H⟩:=H;replace H : (if t226 < 0 then (share_exponent.j0 k a0 1 4096) else (share_exponent.j0 k a0 a1 a2)) = some r:=H;have A6:=Aside0.mk A60;clear A60
 have HC7:=Aside0.mk H
 clear H
 go_enter Tryd.func24,Tryd.ntmps24
 go_upto_if 16 with (first | ((with_reducible refine gate_callee (f:=42) rfl ?_);refine goesL_ (some 12) rfl rfl Tryd.func42 (by kernel_rfl) rfl #[.int .u64 a1,.int .u64 4096] rfl aA ?_;(with_reducible refine (wide_Mul.calls a1 4096 t222 t223 _ A4.out).mono ?_);rintro e w8 ⟨rfl,hb⟩;refine ⟨_,rfl,?_⟩;have n0_:=Am (below_step bA hb);clear HB;have HB:=n0_;clear n0_;(try clear hb)) | ((with_reducible refine gate_callee (f:=44) rfl ?_);refine goesL_ (some 14) rfl rfl Tryd.func44 (by kernel_rfl) rfl #[.int .u64 a2] rfl aA ?_;(with_reducible refine (wide_Of.calls a2 t224 t225 _ A5.out).mono ?_);rintro e w9 ⟨rfl,hb⟩;refine ⟨_,rfl,?_⟩;have n0_:=Am (below_step bA hb);clear HB;have HB:=n0_;clear n0_;(try clear hb)) | ((with_reducible refine gate_callee (f:=43) rfl ?_);refine goesL_ (some 15) rfl rfl Tryd.func43 (by kernel_rfl) rfl #[.agg #[.int .u64 t222,.int .u64 t223],.agg #[.int .u64 t224,.int .u64 t225]] rfl aA ?_;(with_reducible refine (wide_Cmp.calls t222 t223 t224 t225 t226 _ A6.out).mono ?_);rintro e w10 ⟨rfl,hb⟩;refine ⟨_,rfl,?_⟩;have n0_:=Am (below_step bA hb);clear HB;have HB:=n0_;clear n0_;(try clear hb)))
 (try simp only [Act.put,List.setIfInBounds_toArray,List.set_cons_zero,List.set_cons_succ])
 go_cut [1,2] (fun v1 v2 wc => ∃ (kq : Nat) (x1_6 : Int) (x2_6 : Int),v1 = .int .u64 x1_6 ∧ v2 = .int .u64 x2_6 ∧ Aside0 (share_exponent.j0 kq a0 x1_6 x2_6 = some r) ∧ Aside0 (kq ≤ k) ∧ Aside0 (Below w.heap.size w wc))
 case first =>
  have H:=HC7.out
  clear HC7
  by_cases c11 : t226 < 0
  ·rw [if_pos c11] at H
   have c11b0 : decide (t226 < 0) = true:=decide_eq_true c11
   clear c11
   (first | rw [c11b0] | (simp only [i64_w,i32_w];rw [c11b0]) | skip)
   have H':=Aside0.mk H
   clear H
   go_wp2
   go_meet
   case rel => exact ⟨_,(1),(4096),(by first | rfl | (simp;done) | (simp [*];done)),(by first | rfl | (simp;done) | (simp [*];done)),H',⟨by first | omega | exact Nat.le_refl _⟩,⟨bA⟩⟩
  ·rw [if_neg c11] at H
   have c11b0 : decide (t226 < 0) = false:=decide_eq_false c11
   clear c11
   (first | rw [c11b0] | (simp only [i64_w,i32_w];rw [c11b0]) | skip)
   have H':=Aside0.mk H
   clear H
   go_wp2
   go_meet
   case rel => exact ⟨_,(a1),(a2),(by first | rfl | (simp;done) | (simp [*];done)),(by first | rfl | (simp;done) | (simp [*];done)),H',⟨by first | omega | exact Nat.le_refl _⟩,⟨bA⟩⟩
 case rest =>
  clear HC7
  try clear c1
  try clear c2
  try clear p2
  try clear c4
  try clear c11
  try clear c11b0
  obtain ⟨kq,x1_6,x2_6,rfl,rfl,HA,HJ6,HB⟩:=hcut
  cases kq with
  | zero => exact absurd HA.out (by simp [share_exponent.j0])
  | succ kj6 =>
   have H:=HA.out
   clear HA
   simp only [share_exponent.j0] at H
   replace H:=Option.bind_eq_some_iff.mp H;obtain ⟨⟨t227,t228⟩,A120,H⟩:=H;replace H : ((wide_Div.f kj6 t227 t228 x1_6).bind fun bt229 => ((wide_Shr.f bt229.1 bt229.2.1 31).bind fun bt234 => (if bt229.2.2.1 > 0 then (share_exponent.j1 kj6 true bt234.1 bt234.2) else (share_exponent.j1 kj6 (decide ((IntKind.u64.wrap (bt229.2.1 * 8589934592)) > 0)) bt234.1 bt234.2)))) = some r:=H;have A12:=Aside0.mk A120;clear A120;replace H:=Option.bind_eq_some_iff.mp H;obtain ⟨⟨t229,t230,t231,t232⟩,A130,H⟩:=H;replace H : ((wide_Shr.f t229 t230 31).bind fun bt234 => (if t231 > 0 then (share_exponent.j1 kj6 true bt234.1 bt234.2) else (share_exponent.j1 kj6 (decide ((IntKind.u64.wrap (t230 * 8589934592)) > 0)) bt234.1 bt234.2))) = some r:=H;have A13:=Aside0.mk A130;clear A130;replace H:=Option.bind_eq_some_iff.mp H;obtain ⟨⟨t234,t235⟩,A140,H⟩:=H;replace H : (if t231 > 0 then (share_exponent.j1 kj6 true t234 t235) else (share_exponent.j1 kj6 (decide ((IntKind.u64.wrap (t230 * 8589934592)) > 0)) t234 t235)) = some r:=H;have A14:=Aside0.mk A140;clear A140
   have HC15:=Aside0.mk H
   clear H
   go_upto_region 5 with (first | ((with_reducible refine gate_callee (f:=42) rfl ?_);refine goesL_ (some 20) rfl rfl Tryd.func42 (by kernel_rfl) rfl #[.int .u64 a0,.int .u64 x2_6] rfl aA ?_;(with_reducible refine (wide_Mul.calls a0 x2_6 t227 t228 _ A12.out).mono ?_);rintro e w16 ⟨rfl,hb⟩;refine ⟨_,rfl,?_⟩;have n0_:=Am (below_step bA hb);clear HB;have HB:=n0_;clear n0_;(try clear hb)) | ((with_reducible refine gate_callee (f:=41) rfl ?_);refine goesL_ (some 22) rfl rfl Tryd.func41 (by kernel_rfl) rfl #[.agg #[.int .u64 t227,.int .u64 t228],.int .u64 x1_6] rfl aA ?_;(with_reducible refine (wide_Div.calls kj6 t227 t228 x1_6 t229 t230 t231 t232 _ A13.out).mono ?_);rintro e w17 ⟨rfl,hb⟩;refine ⟨_,rfl,?_⟩;have n0_:=Am (below_step bA hb);clear HB;have HB:=n0_;clear n0_;(try clear hb)) | ((with_reducible refine gate_dst (N:=7) rfl ?_);refine bxA 7 #[.int .u64 0,.int .u64 0] 76 ?_;intro gb233 hg w18 hbox hb;have n0_:=Am (below_step bA hb);have n1_:=Am (hbox);have n2_:=Am (gwA hg bA);have n3_:=Am (gwA hg bA);clear HB;have HB:=n0_;have BK233:=n1_;have GW233:=n2_;have GE233:=n3_;clear n0_ n1_ n2_ n3_ hb hbox hg;have hcz19_0 : w18.cell? ⟨gb233,0,none⟩ = some (.int .u64 0):=(blk_cell BK233.out 0).trans rfl;have hcz19_1 : w18.cell? ⟨gb233,1,none⟩ = some (.int .u64 0):=(blk_cell BK233.out 1).trans rfl;have hfz19_0:=blk_frozen BK233.out 0;have hfz19_1:=blk_frozen BK233.out 1) | ((with_reducible refine gate_callee (f:=45) rfl ?_);refine goesL_ (some 27) rfl rfl Tryd.func45 (by kernel_rfl) rfl #[.agg #[.int .u64 t229,.int .u64 t230],.int .i64 31] rfl aA ?_;(with_reducible refine (wide_Shr.calls t229 t230 31 t234 t235 _ A14.out).mono ?_);rintro e w20 ⟨rfl,hb⟩;refine ⟨_,rfl,?_⟩;have n0_:=Am (blk_below (g:=gb233) (o:=.cells #[.int .u64 t229,.int .u64 t230] 76 (0,0)) (by (with_reducible repeat (first | refine b1 ?_ _ | refine b2 ?_ | refine b3 ?_ _));refine blk_put (cs:=#[.int .u64 t229,.int .u64 0]) ?_ 1 _ rfl;(with_reducible repeat (first | refine b1 ?_ _ | refine b2 ?_ | refine b3 ?_ _));refine blk_put (cs:=#[.int .u64 0,.int .u64 0]) ?_ 0 _ rfl;exact kA) hb);have n1_:=Am (below_step bA hb);clear BK233 HB;have BK233:=n0_;have HB:=n1_;clear n0_ n1_;(try clear hb)) | ((with_reducible refine gate_dst (N:=10) rfl ?_);refine bxA 10 #[.int .u64 0,.int .u64 0] 76 ?_;intro gb236 hg w21 hbox hb;have n0_:=Am (blk_below (g:=gb233) kA hb);have n1_:=Am (below_step bA hb);have n2_:=Am (hbox);have n3_:=Am (gwA hg bA);have n4_:=Am (gwA hg bA);have n5_:=Am (neA (g:=gb233) hg kA);have n6_:=Am (neB (g:=gb233) hg kA);clear BK233 HB;have BK233:=n0_;have HB:=n1_;have BK236:=n2_;have GW236:=n3_;have GE236:=n4_;have NB233_236:=n5_;have NB236_233:=n6_;clear n0_ n1_ n2_ n3_ n4_ n5_ n6_ hb hbox hg;have hnb22:=NB236_233.out;have hnc22:=NB233_236.out;have hcz23_0 : w21.cell? ⟨gb236,0,none⟩ = some (.int .u64 0):=(blk_cell BK236.out 0).trans rfl;have hcz23_1 : w21.cell? ⟨gb236,1,none⟩ = some (.int .u64 0):=(blk_cell BK236.out 1).trans rfl;have hfz23_0:=blk_frozen BK236.out 0;have hfz23_1:=blk_frozen BK236.out 1))
   (try simp only [Act.put,List.setIfInBounds_toArray,List.set_cons_zero,List.set_cons_succ])
   go_cut [35] (fun v35 wc => ∃ (kq : Nat) (x35_14 : Bool),v35 = .bool x35_14 ∧ Aside0 (share_exponent.j1 kq x35_14 t234 t235 = some r) ∧ Aside0 (kq ≤ kj6) ∧ Aside0 (wc.heap[gb233]? = some (.cells #[.int .u64 t229,.int .u64 t230] 76 (0,0))) ∧ Aside0 (wc.heap[gb236]? = some (.cells #[.int .u64 t234,.int .u64 t235] 76 (0,0))) ∧ Aside0 (Below w.heap.size w wc))
   case first =>
    have H:=HC15.out
    clear HC15
    by_cases c24 : t231 > 0
    ·rw [if_pos c24] at H
     have c24b0 : decide (0 < t231) = true:=decide_eq_true c24
     clear c24
     (first | rw [c24b0] | (simp only [i64_w,i32_w];rw [c24b0]) | skip)
     have H':=Aside0.mk H
     clear H
     go_wp2
     go_meet
     case rel => exact ⟨_,(true),(by first | rfl | (simp;done) | (simp [*];done)),H',⟨by have:=HJ6.out;first | omega | exact Nat.le_refl _⟩,⟨by (with_reducible repeat (first | refine b1 ?_ _ | refine b2 ?_ | refine b3 ?_ _));refine blk_far ?_ NB233_236.out _;(with_reducible repeat (first | refine b1 ?_ _ | refine b2 ?_ | refine b3 ?_ _));refine blk_far ?_ NB233_236.out _;exact kA⟩,⟨by (with_reducible repeat (first | refine b1 ?_ _ | refine b2 ?_ | refine b3 ?_ _));refine blk_put (cs:=#[.int .u64 t234,.int .u64 0]) ?_ 1 _ rfl;(with_reducible repeat (first | refine b1 ?_ _ | refine b2 ?_ | refine b3 ?_ _));refine blk_put (cs:=#[.int .u64 0,.int .u64 0]) ?_ 0 _ rfl;exact kA⟩,⟨bA⟩⟩
    ·rw [if_neg c24] at H
     have c24b0 : decide (0 < t231) = false:=decide_eq_false c24
     clear c24
     (first | rw [c24b0] | (simp only [i64_w,i32_w];rw [c24b0]) | skip)
     have H':=Aside0.mk H
     clear H
     have hnb25:=NB233_236.out
     have hnc25:=NB236_233.out
     have hcz26_0 : w21.cell? ⟨gb233,0,none⟩ = some (.int .u64 t229):=(blk_cell BK233.out 0).trans rfl
     have hcz26_1 : w21.cell? ⟨gb233,1,none⟩ = some (.int .u64 t230):=(blk_cell BK233.out 1).trans rfl
     have hfz26_0:=blk_frozen BK233.out 0
     have hfz26_1:=blk_frozen BK233.out 1
     go_wp2
     go_meet
     case rel => exact ⟨_,(decide ((IntKind.u64.wrap (t230 * 8589934592)) > 0)),(by first | rfl | (simp;done) | (simp [*];done)),H',⟨by have:=HJ6.out;first | omega | exact Nat.le_refl _⟩,⟨by (with_reducible repeat (first | refine b1 ?_ _ | refine b2 ?_ | refine b3 ?_ _));refine blk_far ?_ NB233_236.out _;(with_reducible repeat (first | refine b1 ?_ _ | refine b2 ?_ | refine b3 ?_ _));refine blk_far ?_ NB233_236.out _;exact kA⟩,⟨by (with_reducible repeat (first | refine b1 ?_ _ | refine b2 ?_ | refine b3 ?_ _));refine blk_put (cs:=#[.int .u64 t234,.int .u64 0]) ?_ 1 _ rfl;(with_reducible repeat (first | refine b1 ?_ _ | refine b2 ?_ | refine b3 ?_ _));refine blk_put (cs:=#[.int .u64 0,.int .u64 0]) ?_ 0 _ rfl;exact kA⟩,⟨bA⟩⟩
   case rest =>
    clear HC15
    try clear c1
    try clear c2
    try clear p2
    try clear c4
    try clear c11
    try clear c11b0
    try clear c22
    try clear c24
    try clear c24b0
    try clear c25
    try clear hcz19_0
    try clear hcz19_1
    try clear hcz23_0
    try clear hcz23_1
    try clear hcz26_0
    try clear hcz26_1
    try clear hfz19_0
    try clear hfz19_1
    try clear hfz23_0
    try clear hfz23_1
    try clear hfz26_0
    try clear hfz26_1
    try clear p2
    obtain ⟨kq,x35_14,rfl,HA,HJ14,BK233,BK236,HB⟩:=hcut
    cases kq with
    | zero => exact absurd HA.out (by simp [share_exponent.j1])
    | succ kj14 =>
     have H:=HA.out
     clear HA
     simp only [share_exponent.j1] at H
     by_cases c27 : x35_14 = true
     ·subst c27
      have H1 : ((wide_Of.f 1).bind fun bt237 => ((wide_Add.f t234 t235 bt237.1 bt237.2).bind fun bt239 => (if bt239.1 > 0 then (some 18446744073709551615) else (some bt239.2.1)))) = some r:=by rw [if_pos rfl] at H;exact H
      clear H
      have H:=H1
      clear H1;replace H:=Option.bind_eq_some_iff.mp H;obtain ⟨⟨t237,t238⟩,A280,H⟩:=H;replace H : ((wide_Add.f t234 t235 t237 t238).bind fun bt239 => (if bt239.1 > 0 then (some 18446744073709551615) else (some bt239.2.1))) = some r:=H;have A28:=Aside0.mk A280;clear A280;replace H:=Option.bind_eq_some_iff.mp H;obtain ⟨⟨t239,t240,t241⟩,A290,H⟩:=H;replace H : (if t239 > 0 then (some 18446744073709551615) else (some t240)) = some r:=H;have A29:=Aside0.mk A290;clear A290
      by_cases c30 : t239 > 0
      ·rw [if_pos c30] at H
       have c30b0 : decide (0 < t239) = true:=decide_eq_true c30
       clear c30
       obtain rfl:=Option.some.inj H
       try go_wp2
       have n0_:=Am (blk_drew BK233.out);have n1_:=Am (blk_drew BK236.out);have n2_:=Am (below_drew1 HB.out);clear BK233 BK236 HB;have BK233:=n0_;have BK236:=n1_;have HB:=n2_;clear n0_ n1_ n2_
       refine start_ (n:=7) (S:=fun w' => w'.cell? ⟨gb236,0,none⟩ = some (.int .u64 t234) ∧ w'.cell? ⟨gb236,1,none⟩ = some (.int .u64 t235)) (ds:=[6]) #[nn,nn,nn,nn,nn,nn,nn] (by kernel_rfl) rfl rfl ⟨(blk_cell BK236.out 0).trans rfl,(blk_cell BK236.out 1).trans rfl⟩ (fun hHeld => ?_)
       generalize wc.drew = w31 at BK233 BK236 HB hHeld ⊢
       refine take_ (i:=0) (N:=some 37) (v:=?_) (a':=?_) #[yy,nn,nn,nn,nn,nn,nn] rfl rfl (by kernel_rfl) (fun _ _ _ h => h) (Or.inl ⟨by rfl,?_⟩) hHeld ?_ ?_
       rotate_left
       ·rintro w' ⟨s0,s1⟩
        go_simp;with_reducible rfl
       rotate_left
       ·simp only [NR]
        rfl
       refine one_ (i:=1) (N:=some 38) #[yy,yy,nn,nn,nn,nn,nn] rfl rfl (by kernel_rfl) (by decide) (fun K hK => ?_)
       refine goes_ Tryd.func44 (by kernel_rfl) rfl #[.int .u64 1] (by rfl) rfl rfl aA ?_
       with_reducible refine (wide_Of.calls 1 t237 t238 _ A28.out).mono ?_
       rintro e w32 ⟨rfl,hb⟩
       refine ⟨_,rfl,?_⟩;have n0_:=Am (blk_below (g:=gb233) kA hb);have n1_:=Am (blk_below (g:=gb236) kA hb);have n2_:=Am (below_step bA hb);clear BK233 BK236 HB;have BK233:=n0_;have BK236:=n1_;have HB:=n2_;clear n0_ n1_ n2_;(try clear hb)
       refine hK.out _ _ ⟨(blk_cell BK236.out 0).trans rfl,(blk_cell BK236.out 1).trans rfl⟩ (fun hHeld => ?_)
       clear hK K
       refine norm_ (a':=?_) ?_ ?_
       rotate_left
       ·show Act.put _ (some 38) _ = _
        simp only [NR]
        rfl
       refine one_ (i:=2) (N:=some 39) #[yy,yy,yy,nn,nn,nn,nn] rfl rfl (by kernel_rfl) (by decide) (fun K hK => ?_)
       refine goes_ Tryd.func46 (by kernel_rfl) rfl #[.agg #[.int .u64 t234,.int .u64 t235],.agg #[.int .u64 t237,.int .u64 t238]] (by rfl) rfl rfl aA ?_
       with_reducible refine (wide_Add.calls t234 t235 t237 t238 t239 t240 t241 _ A29.out).mono ?_
       rintro e w33 ⟨rfl,hb⟩
       refine ⟨_,rfl,?_⟩;have n0_:=Am (blk_below (g:=gb233) kA hb);have n1_:=Am (blk_below (g:=gb236) kA hb);have n2_:=Am (below_step bA hb);clear BK233 BK236 HB;have BK233:=n0_;have BK236:=n1_;have HB:=n2_;clear n0_ n1_ n2_;(try clear hb)
       refine hK.out _ _ ⟨(blk_cell BK236.out 0).trans rfl,(blk_cell BK236.out 1).trans rfl⟩ (fun hHeld => ?_)
       clear hK K
       refine norm_ (a':=?_) ?_ ?_
       rotate_left
       ·show Act.put _ (some 39) _ = _
        simp only [NR]
        rfl
       refine pure_ (i:=3) (N:=some 36) (v:=?_) (a':=?_) #[yy,yy,yy,yy,nn,nn,nn] rfl rfl (by kernel_rfl) (fun _ _ _ h => h) (Or.inl ⟨by rfl,?_⟩) ?_ ?_
       rotate_left
       ·intro w'
        go_simp;with_reducible rfl
       rotate_left
       ·simp only [NR]
        rfl
       refine pure_ (i:=4) (N:=some 40) (v:=?_) (a':=?_) #[yy,yy,yy,yy,yy,nn,nn] rfl rfl (by kernel_rfl) (fun _ _ _ h => h) (Or.inl ⟨by rfl,?_⟩) ?_ ?_
       rotate_left
       ·intro w'
        go_simp;with_reducible rfl
       rotate_left
       ·simp only [NR]
        rfl
       refine pure_ (i:=5) (N:=some 41) (v:=?_) (a':=?_) #[yy,yy,yy,yy,yy,yy,nn] rfl rfl (by kernel_rfl) (fun _ _ _ h => h) (Or.inl ⟨by rfl,?_⟩) ?_ ?_
       rotate_left
       ·intro w'
        go_simp;with_reducible rfl
       rotate_left
       ·simp only [NR]
        rfl
       refine last_ (i:=6) (N:=none) #[yy,yy,yy,yy,yy,yy,yy] rfl rfl (by kernel_rfl) (by decide) (fun K hK => ?_)
       have hs34 : w33.cell? ⟨gb236,0,none⟩ = some (.int .u64 t234):=(blk_cell BK236.out 0).trans rfl
       have hfs34:=blk_frozen BK236.out 0
       have hns34_0:=NB233_236.out
       have hms34_0:=NB236_233.out
       have hs35 : w33.cell? ⟨gb236,1,none⟩ = some (.int .u64 t235):=(blk_cell BK236.out 1).trans rfl
       have hfs35:=blk_frozen BK236.out 1
       have hns35_0:=NB233_236.out
       have hms35_0:=NB236_233.out
       refine skip_ (w1:=?_) (by rfl) rfl ?_ ?_
       rotate_left
       ·go_simp
        rfl
       refine hK.out _ _ ?_
       clear hK K
       refine done_ (by kernel_rfl) ?_
       have hnb36:=NB236_233.out
       have hnc36:=NB233_236.out
       have hcz37_0 : w33.cell? ⟨gb236,0,none⟩ = some (.int .u64 t234):=(blk_cell BK236.out 0).trans rfl
       have hcz37_1 : w33.cell? ⟨gb236,1,none⟩ = some (.int .u64 t235):=(blk_cell BK236.out 1).trans rfl
       have hfz37_0:=blk_frozen BK236.out 0
       have hfz37_1:=blk_frozen BK236.out 1
       try go_wp2
       go_ret
       exact ⟨by first | rfl | (simp [errW_none,errW_some] <;> rfl) | (simp [*,errW_none,errW_some] <;> rfl),bA⟩
      ·rw [if_neg c30] at H
       have c30b0 : decide (0 < t239) = false:=decide_eq_false c30
       clear c30
       obtain rfl:=Option.some.inj H
       try go_wp2
       have n0_:=Am (blk_drew BK233.out);have n1_:=Am (blk_drew BK236.out);have n2_:=Am (below_drew1 HB.out);clear BK233 BK236 HB;have BK233:=n0_;have BK236:=n1_;have HB:=n2_;clear n0_ n1_ n2_
       refine start_ (n:=7) (S:=fun w' => w'.cell? ⟨gb236,0,none⟩ = some (.int .u64 t234) ∧ w'.cell? ⟨gb236,1,none⟩ = some (.int .u64 t235)) (ds:=[6]) #[nn,nn,nn,nn,nn,nn,nn] (by kernel_rfl) rfl rfl ⟨(blk_cell BK236.out 0).trans rfl,(blk_cell BK236.out 1).trans rfl⟩ (fun hHeld => ?_)
       generalize wc.drew = w38 at BK233 BK236 HB hHeld ⊢
       refine take_ (i:=0) (N:=some 37) (v:=?_) (a':=?_) #[yy,nn,nn,nn,nn,nn,nn] rfl rfl (by kernel_rfl) (fun _ _ _ h => h) (Or.inl ⟨by rfl,?_⟩) hHeld ?_ ?_
       rotate_left
       ·rintro w' ⟨s0,s1⟩
        go_simp;with_reducible rfl
       rotate_left
       ·simp only [NR]
        rfl
       refine one_ (i:=1) (N:=some 38) #[yy,yy,nn,nn,nn,nn,nn] rfl rfl (by kernel_rfl) (by decide) (fun K hK => ?_)
       refine goes_ Tryd.func44 (by kernel_rfl) rfl #[.int .u64 1] (by rfl) rfl rfl aA ?_
       with_reducible refine (wide_Of.calls 1 t237 t238 _ A28.out).mono ?_
       rintro e w39 ⟨rfl,hb⟩
       refine ⟨_,rfl,?_⟩;have n0_:=Am (blk_below (g:=gb233) kA hb);have n1_:=Am (blk_below (g:=gb236) kA hb);have n2_:=Am (below_step bA hb);clear BK233 BK236 HB;have BK233:=n0_;have BK236:=n1_;have HB:=n2_;clear n0_ n1_ n2_;(try clear hb)
       refine hK.out _ _ ⟨(blk_cell BK236.out 0).trans rfl,(blk_cell BK236.out 1).trans rfl⟩ (fun hHeld => ?_)
       clear hK K
       refine norm_ (a':=?_) ?_ ?_
       rotate_left
       ·show Act.put _ (some 38) _ = _
        simp only [NR]
        rfl
       refine one_ (i:=2) (N:=some 39) #[yy,yy,yy,nn,nn,nn,nn] rfl rfl (by kernel_rfl) (by decide) (fun K hK => ?_)
       refine goes_ Tryd.func46 (by kernel_rfl) rfl #[.agg #[.int .u64 t234,.int .u64 t235],.agg #[.int .u64 t237,.int .u64 t238]] (by rfl) rfl rfl aA ?_
       with_reducible refine (wide_Add.calls t234 t235 t237 t238 t239 t240 t241 _ A29.out).mono ?_
       rintro e w40 ⟨rfl,hb⟩
       refine ⟨_,rfl,?_⟩;have n0_:=Am (blk_below (g:=gb233) kA hb);have n1_:=Am (blk_below (g:=gb236) kA hb);have n2_:=Am (below_step bA hb);clear BK233 BK236 HB;have BK233:=n0_;have BK236:=n1_;have HB:=n2_;clear n0_ n1_ n2_;(try clear hb)
       refine hK.out _ _ ⟨(blk_cell BK236.out 0).trans rfl,(blk_cell BK236.out 1).trans rfl⟩ (fun hHeld => ?_)
       clear hK K
       refine norm_ (a':=?_) ?_ ?_
       rotate_left
       ·show Act.put _ (some 39) _ = _
        simp only [NR]
        rfl
       refine pure_ (i:=3) (N:=some 36) (v:=?_) (a':=?_) #[yy,yy,yy,yy,nn,nn,nn] rfl rfl (by kernel_rfl) (fun _ _ _ h => h) (Or.inl ⟨by rfl,?_⟩) ?_ ?_
       rotate_left
       ·intro w'
        go_simp;with_reducible rfl
       rotate_left
       ·simp only [NR]
        rfl
       refine pure_ (i:=4) (N:=some 40) (v:=?_) (a':=?_) #[yy,yy,yy,yy,yy,nn,nn] rfl rfl (by kernel_rfl) (fun _ _ _ h => h) (Or.inl ⟨by rfl,?_⟩) ?_ ?_
       rotate_left
       ·intro w'
        go_simp;with_reducible rfl
       rotate_left
       ·simp only [NR]
        rfl
       refine pure_ (i:=5) (N:=some 41) (v:=?_) (a':=?_) #[yy,yy,yy,yy,yy,yy,nn] rfl rfl (by kernel_rfl) (fun _ _ _ h => h) (Or.inl ⟨by rfl,?_⟩) ?_ ?_
       rotate_left
       ·intro w'
        go_simp;with_reducible rfl
       rotate_left
       ·simp only [NR]
        rfl
       refine last_ (i:=6) (N:=none) #[yy,yy,yy,yy,yy,yy,yy] rfl rfl (by kernel_rfl) (by decide) (fun K hK => ?_)
       have hs41 : w40.cell? ⟨gb236,0,none⟩ = some (.int .u64 t234):=(blk_cell BK236.out 0).trans rfl
       have hfs41:=blk_frozen BK236.out 0
       have hns41_0:=NB233_236.out
       have hms41_0:=NB236_233.out
       have hs42 : w40.cell? ⟨gb236,1,none⟩ = some (.int .u64 t235):=(blk_cell BK236.out 1).trans rfl
       have hfs42:=blk_frozen BK236.out 1
       have hns42_0:=NB233_236.out
       have hms42_0:=NB236_233.out
       refine skip_ (w1:=?_) (by rfl) rfl ?_ ?_
       rotate_left
       ·go_simp
        rfl
       refine hK.out _ _ ?_
       clear hK K
       refine done_ (by kernel_rfl) ?_
       have hnb43:=NB236_233.out
       have hnc43:=NB233_236.out
       have hcz44_0 : w40.cell? ⟨gb236,0,none⟩ = some (.int .u64 t234):=(blk_cell BK236.out 0).trans rfl
       have hcz44_1 : w40.cell? ⟨gb236,1,none⟩ = some (.int .u64 t235):=(blk_cell BK236.out 1).trans rfl
       have hfz44_0:=blk_frozen BK236.out 0
       have hfz44_1:=blk_frozen BK236.out 1
       try go_wp2
       go_ret
       exact ⟨by first | rfl | (simp [errW_none,errW_some] <;> rfl) | (simp [*,errW_none,errW_some] <;> rfl),bA⟩
     ·replace c27:=Bool.eq_false_iff.mpr c27
      subst c27
      have H1 : (if t234 > 0 then (some 18446744073709551615) else (some t235)) = some r:=by rw [if_neg (show ¬ (false = true) by decide)] at H;exact H
      clear H
      have H:=H1
      clear H1
      by_cases c45 : t234 > 0
      ·rw [if_pos c45] at H
       have c45b0 : decide (0 < t234) = true:=decide_eq_true c45
       clear c45
       obtain rfl:=Option.some.inj H
       have hnb46:=NB236_233.out
       have hnc46:=NB233_236.out
       have hcz47_0 : wc.cell? ⟨gb236,0,none⟩ = some (.int .u64 t234):=(blk_cell BK236.out 0).trans rfl
       have hcz47_1 : wc.cell? ⟨gb236,1,none⟩ = some (.int .u64 t235):=(blk_cell BK236.out 1).trans rfl
       have hfz47_0:=blk_frozen BK236.out 0
       have hfz47_1:=blk_frozen BK236.out 1
       go_wp2
       go_ret
       exact ⟨by first | rfl | (simp [errW_none,errW_some] <;> rfl) | (simp [*,errW_none,errW_some] <;> rfl),bA⟩
      ·rw [if_neg c45] at H
       have c45b0 : decide (0 < t234) = false:=decide_eq_false c45
       clear c45
       obtain rfl:=Option.some.inj H
       have hnb48:=NB236_233.out
       have hnc48:=NB233_236.out
       have hcz49_0 : wc.cell? ⟨gb236,0,none⟩ = some (.int .u64 t234):=(blk_cell BK236.out 0).trans rfl
       have hcz49_1 : wc.cell? ⟨gb236,1,none⟩ = some (.int .u64 t235):=(blk_cell BK236.out 1).trans rfl
       have hfz49_0:=blk_frozen BK236.out 0
       have hfz49_1:=blk_frozen BK236.out 1
       go_wp2
       go_ret
       exact ⟨by first | rfl | (simp [errW_none,errW_some] <;> rfl) | (simp [*,errW_none,errW_some] <;> rfl),bA⟩


def backfilllaw13_plain.f  : Option (Int × Int × Int × Int × Int × Int × Int × Int):=some (4,8,10,1,1000,0,100,100)
set_option maxHeartbeats 8000000 in
set_option maxRecDepth 100000 in
theorem backfilllaw13_plain.calls  (r1 : Int) (r2 : Int) (r3 : Int) (r4 : Int) (r5 : Int) (r6 : Int) (r7 : Int) (r8 : Int) (w : World) (h : backfilllaw13_plain.f  = some (r1,r2,r3,r4,r5,r6,r7,r8)) :
  Calls Tryd.prog 14 #[] w fun e w' => e = .returned (.agg #[.int .i64 r1,.int .i64 r2,.int .i64 r3,.int .i64 r4,.int .i64 r5,.int .i64 r6,.int .i64 r7,.int .i64 r8]) ∧ Below w.heap.size w w':=by
 have hu23:=Tryd.underlying23
 have HB:=Am (Below.refl w.heap.size w)
 have H : (some (4,8,10,1,1000,0,100,100)) = some (r1,r2,r3,r4,r5,r6,r7,r8):=h
 clear h
 simp only [Option.some.injEq,Prod.mk.injEq] at H
 obtain ⟨rfl,rfl,rfl,rfl,rfl,rfl,rfl,rfl⟩:=H
 go_enter Tryd.func14,Tryd.ntmps14
 go_wp2_with (first | ((with_reducible refine gate_dst (N:=0) rfl ?_);refine bxA 0 #[.int .i64 0,.int .i64 0,.int .i64 0,.int .i64 0,.int .i64 0,.int .i64 0,.int .i64 0,.int .i64 0] 23 ?_;intro gb243 hg w1 hbox hb;have n0_:=Am (below_step bA hb);have n1_:=Am (hbox);have n2_:=Am (gwA hg bA);have n3_:=Am (gwA hg bA);clear HB;have HB:=n0_;have BK243:=n1_;have GW243:=n2_;have GE243:=n3_;clear n0_ n1_ n2_ n3_ hb hbox hg;have hcz2_0 : w1.cell? ⟨gb243,0,none⟩ = some (.int .i64 0):=(blk_cell BK243.out 0).trans rfl;have hcz2_1 : w1.cell? ⟨gb243,1,none⟩ = some (.int .i64 0):=(blk_cell BK243.out 1).trans rfl;have hcz2_2 : w1.cell? ⟨gb243,2,none⟩ = some (.int .i64 0):=(blk_cell BK243.out 2).trans rfl;have hcz2_3 : w1.cell? ⟨gb243,3,none⟩ = some (.int .i64 0):=(blk_cell BK243.out 3).trans rfl;have hcz2_4 : w1.cell? ⟨gb243,4,none⟩ = some (.int .i64 0):=(blk_cell BK243.out 4).trans rfl;have hcz2_5 : w1.cell? ⟨gb243,5,none⟩ = some (.int .i64 0):=(blk_cell BK243.out 5).trans rfl;have hcz2_6 : w1.cell? ⟨gb243,6,none⟩ = some (.int .i64 0):=(blk_cell BK243.out 6).trans rfl;have hcz2_7 : w1.cell? ⟨gb243,7,none⟩ = some (.int .i64 0):=(blk_cell BK243.out 7).trans rfl;have hfz2_0:=blk_frozen BK243.out 0;have hfz2_1:=blk_frozen BK243.out 1;have hfz2_2:=blk_frozen BK243.out 2;have hfz2_3:=blk_frozen BK243.out 3;have hfz2_4:=blk_frozen BK243.out 4;have hfz2_5:=blk_frozen BK243.out 5;have hfz2_6:=blk_frozen BK243.out 6;have hfz2_7:=blk_frozen BK243.out 7))
 refine bodyPost_ret (results_cell_row rfl _ _ gb243 23 #[.int .i64 4,.int .i64 8,.int .i64 10,.int .i64 1,.int .i64 1000,.int .i64 0,.int .i64 100,.int .i64 100] (0,0) _ rfl (by (with_reducible repeat (first | refine b1 ?_ _ | refine b2 ?_ | refine b3 ?_ _));refine blk_put (cs:=#[.int .i64 4,.int .i64 8,.int .i64 10,.int .i64 1,.int .i64 1000,.int .i64 0,.int .i64 100,.int .i64 0]) ?_ 7 _ rfl;(with_reducible repeat (first | refine b1 ?_ _ | refine b2 ?_ | refine b3 ?_ _));refine blk_put (cs:=#[.int .i64 4,.int .i64 8,.int .i64 10,.int .i64 1,.int .i64 1000,.int .i64 0,.int .i64 0,.int .i64 0]) ?_ 6 _ rfl;(with_reducible repeat (first | refine b1 ?_ _ | refine b2 ?_ | refine b3 ?_ _));refine blk_put (cs:=#[.int .i64 4,.int .i64 8,.int .i64 10,.int .i64 1,.int .i64 1000,.int .i64 0,.int .i64 0,.int .i64 0]) ?_ 5 _ rfl;(with_reducible repeat (first | refine b1 ?_ _ | refine b2 ?_ | refine b3 ?_ _));refine blk_put (cs:=#[.int .i64 4,.int .i64 8,.int .i64 10,.int .i64 1,.int .i64 0,.int .i64 0,.int .i64 0,.int .i64 0]) ?_ 4 _ rfl;(with_reducible repeat (first | refine b1 ?_ _ | refine b2 ?_ | refine b3 ?_ _));refine blk_put (cs:=#[.int .i64 4,.int .i64 8,.int .i64 10,.int .i64 0,.int .i64 0,.int .i64 0,.int .i64 0,.int .i64 0]) ?_ 3 _ rfl;(with_reducible repeat (first | refine b1 ?_ _ | refine b2 ?_ | refine b3 ?_ _));refine blk_put (cs:=#[.int .i64 4,.int .i64 8,.int .i64 0,.int .i64 0,.int .i64 0,.int .i64 0,.int .i64 0,.int .i64 0]) ?_ 2 _ rfl;(with_reducible repeat (first | refine b1 ?_ _ | refine b2 ?_ | refine b3 ?_ _));refine blk_put (cs:=#[.int .i64 4,.int .i64 0,.int .i64 0,.int .i64 0,.int .i64 0,.int .i64 0,.int .i64 0,.int .i64 0]) ?_ 1 _ rfl;(with_reducible repeat (first | refine b1 ?_ _ | refine b2 ?_ | refine b3 ?_ _));refine blk_put (cs:=#[.int .i64 0,.int .i64 0,.int .i64 0,.int .i64 0,.int .i64 0,.int .i64 0,.int .i64 0,.int .i64 0]) ?_ 0 _ rfl;exact kA) Tryd.underlying23 rfl (by kernel_rfl)) rfl ?_
 exact ⟨by first | rfl | (simp [errW_none,errW_some] <;> rfl) | (simp [*,errW_none,errW_some] <;> rfl),bA⟩


end Go.Proofs.YtbhijfbjdbjpbaaDoor.GSH
namespace Go.Proofs.YtbhijfbjdbjpbaaDoor.Q
open Go.RowKit Go.Proofs.YtbhijfbjdbjpbaaDoor.GSH Go.Proofs.YtbhijfbjdbjpbaaDoorW.PrintWords Go.Proofs.YtbhijfbjdbjpbaaDoorW.PrintLast Go.Proofs.YtbhijfbjdbjpbaaDoorW.PrintMore
theorem wshr {h l : Int} (hh : U h) (hl : U l) (n : Nat) (h0 : 0 < n) (h1 : n < 64) : wide_Shr.f h l (n : Int) = some (shrV h l n):=by
  unfold wide_Shr.f shrV
  rw [if_neg (by omega),if_pos (by omega),if_pos (by omega),wrap64_in (by omega) (by omega),if_pos (by omega)]
  rw [show (64 - (n : Int)) = ((64 - n : Nat) : Int) by omega,shr_at n (by omega),shr_at n (by omega),shl_at (64 - n) (by omega),or_comm_]
  have d:=div_lt_pow (x:=l) (64 - n) (by omega) hl
  rw [show 64 - (64 - n) = n by omega] at d
  have:=pow_bd (64 - n) (by omega)
  rw [or_add (64 - n) (umod _) (emod_pow (64 - n) (by omega)) d.1 d.2 (by omega)]
end Go.Proofs.YtbhijfbjdbjpbaaDoor.Q
namespace Go.Proofs.YtbhijfbjdbjpbaaDoor.Q
open Go.RowKit Go.Proofs.YtbhijfbjdbjpbaaDoor.GSH Go.Proofs.YtbhijfbjdbjpbaaDoorW.PrintWords Go.Proofs.YtbhijfbjdbjpbaaDoorW.PrintLast Go.Proofs.YtbhijfbjdbjpbaaDoorW.PrintMore
theorem compare_ (a b : Int) : cmp_Compare_uint64.f a b = some (if a < b then -1 else if a > b then 1 else 0):=by
  unfold cmp_Compare_uint64.f cmp_isNaN_uint64.f
  simp only [bne_self_eq_false,Option.bind_some,Bool.false_eq_true,if_false]
  split
  · rfl
  · split <;> rfl
theorem wcmp {ah al bh bl : Int} (h2 : U al) (h4 : U bl) : wide_Cmp.f ah al bh bl = some (cmpV (V ah al) (V bh bl)):=by
  unfold wide_Cmp.f cmpV V
  rw [compare_,compare_]
  simp only [Option.bind_some]
  obtain ⟨h2a,h2b⟩:=h2;obtain ⟨h4a,h4b⟩:=h4
  by_cases e : ah = bh
  · rw [if_pos e]
    congr 1
    by_cases c : al < bl
    · rw [if_pos c,if_pos (show ah * 18446744073709551616 + al < bh * 18446744073709551616 + bl by omega)]
    · rw [if_neg c,if_neg (show ¬ ah * 18446744073709551616 + al < bh * 18446744073709551616 + bl by omega)]
      by_cases d : al > bl
      · rw [if_pos d,if_neg (show ¬ ah * 18446744073709551616 + al = bh * 18446744073709551616 + bl by omega)]
      · rw [if_neg d,if_pos (show ah * 18446744073709551616 + al = bh * 18446744073709551616 + bl by omega)]
  · rw [if_neg e]
    congr 1
    by_cases c : ah < bh
    · rw [if_pos c,if_pos (show ah * 18446744073709551616 + al < bh * 18446744073709551616 + bl by omega)]
    · rw [if_neg c,if_neg (show ¬ ah * 18446744073709551616 + al < bh * 18446744073709551616 + bl by omega),if_pos (show ah > bh by omega),if_neg (show ¬ ah * 18446744073709551616 + al = bh * 18446744073709551616 + bl by omega)]
end Go.Proofs.YtbhijfbjdbjpbaaDoor.Q
namespace Go.Proofs.YtbhijfbjdbjpbaaDoor.Q
open Go.RowKit Go.Proofs.YtbhijfbjdbjpbaaDoor.GSH Go.Proofs.YtbhijfbjdbjpbaaDoorW.PrintWords Go.Proofs.YtbhijfbjdbjpbaaDoorW.PrintLast Go.Proofs.YtbhijfbjdbjpbaaDoorW.PrintMore
theorem mul64 {a b : Int} (ha : U a) (hb : U b) : bits_Mul64.f a b = some (a * b / 18446744073709551616,a * b % 18446744073709551616):=by
  unfold bits_Mul64.f
  have e:=mul_halves a b
  obtain ⟨a0,a1⟩:=ha
  obtain ⟨b0,b1⟩:=hb
  rw [and32 ⟨a0,a1⟩,and32 ⟨b0,b1⟩]
  have p1:=half_bd (x:=a / 4294967296) (y:=b / 4294967296) (by omega) (by omega) (by omega) (by omega)
  have p2:=half_bd (x:=a / 4294967296) (y:=b % 4294967296) (by omega) (by omega) (by omega) (by omega)
  have p3:=half_bd (x:=a % 4294967296) (y:=b / 4294967296) (by omega) (by omega) (by omega) (by omega)
  have p4:=half_bd (x:=a % 4294967296) (y:=b % 4294967296) (by omega) (by omega) (by omega) (by omega)
  generalize (a / 4294967296) * (b / 4294967296) = x1 at *
  generalize (a / 4294967296) * (b % 4294967296) = x2 at *
  generalize (a % 4294967296) * (b / 4294967296) = x3 at *
  generalize (a % 4294967296) * (b % 4294967296) = x4 at *
  generalize a * b = y at *
  rw [w64_in (x:=x4) (by omega) (by omega),w64_in (x:=x2) (by omega) (by omega),w64_in (x:=x3) (by omega) (by omega),w64_in (x:=x1) (by omega) (by omega)]
  rw [w64_in (x:=x2 + x4 / 4294967296) (by omega) (by omega),and32 (x:=x2 + x4 / 4294967296) ⟨by omega,by omega⟩]
  simp only [w64]
  congr 2
  omega
theorem wmul {a b : Int} (ha : U a) (hb : U b) : wide_Mul.f a b = some (a * b / 18446744073709551616,a * b % 18446744073709551616):=by
  unfold wide_Mul.f
  rw [mul64 ha hb];rfl
end Go.Proofs.YtbhijfbjdbjpbaaDoor.Q
namespace Go.Proofs.YtbhijfbjdbjpbaaDoor.Q
def rungsN : List Nat:=[13043817825332782212,15511800964685064948,16915738899553466670,17664662643191237676,18051468387014017850,18248035989933441396,18347121020861646923,18396865112328554660,18421787711448657617,18434261669329232139,18440501815349552981,18443622680442407997,18445183311048607331,18445963675871538003,18446353870663572144,18446548971154807801,18446646522174239824,18446695297877410578,18446719685777359790,18446731879739425373,18446737976723480911,18446741025216264367,18446742549462845017,18446743311586182573,18446743692647863158,18446743883178706403,18446743978444128763,18446744026076840128,18446744049893195856,18446744061801373732,18446744067755462673,18446744070732507144]
/-- The rung of bit d of the exponent's 32 bits behind the point. -/
def rung (d : Nat) : Nat:=rungsN.getD (31 - d) 0
abbrev BB : Nat:=18446744073709551616
def bit (e d : Nat) : Nat:=e / 2 ^ d % 2
/-- What the lowest d bits of e leave of t. -/
def hgo : Nat → Nat → Nat → Nat
  | 0,_,t => t
  | d + 1,e,t => if bit e d = 0 then hgo d e t else hgo d e (t * rung d / BB)
/-- A bit's factor,by BB. -/
def fac (e d : Nat) : Nat:=if bit e d = 0 then BB else rung d
def XX : Nat → Nat → Nat
  | 0,_ => 1
  | d + 1,e => fac e d * XX d e
/-- All ones. -/
def OO : Nat → Nat
  | 0 => 1
  | d + 1 => rung d * OO d
theorem rung_le : ∀ d : Fin 32,rung d.val < BB ∧ 13043817825332782212 ≤ rung d.val:=by decide +kernel
theorem rung_lt {d : Nat} (h : d < 32) : rung d < BB:=(rung_le ⟨d,h⟩).1
theorem fac_le {e d : Nat} (h : d < 32) : fac e d ≤ BB:=by unfold fac;split;exact Nat.le_refl _;exact Nat.le_of_lt (rung_lt h)
theorem fac_ge {e d : Nat} (h : d < 32) : rung d ≤ fac e d:=by unfold fac;split;exact Nat.le_of_lt (rung_lt h);exact Nat.le_refl _
theorem XX_le {e : Nat} : ∀ {d : Nat},d ≤ 32 → XX d e ≤ BB ^ d
  | 0,_ => Nat.le_refl _
  | d + 1,h => by rw [XX,Nat.pow_succ,Nat.mul_comm (BB ^ d)];exact Nat.mul_le_mul (fac_le (by omega)) (XX_le (by omega))
theorem OO_le {e : Nat} : ∀ {d : Nat},d ≤ 32 → OO d ≤ XX d e
  | 0,_ => Nat.le_refl _
  | d + 1,h => by rw [XX,OO];exact Nat.mul_le_mul (fac_ge (by omega)) (OO_le (by omega))
theorem OO_le' {d : Nat} (h : d ≤ 32) : OO d ≤ BB ^ d:=Nat.le_trans (OO_le (e:=0) h) (XX_le h)
theorem hgo_le {e : Nat} : ∀ {d : Nat} {t : Nat},d ≤ 32 → hgo d e t ≤ t
  | 0,_,_ => Nat.le_refl _
  | d + 1,t,h => by
    rw [hgo]
    split
    · exact hgo_le (by omega)
    · refine Nat.le_trans (hgo_le (by omega)) ?_
      apply Nat.div_le_of_le_mul
      rw [Nat.mul_comm BB]
      exact Nat.mul_le_mul_left _ (Nat.le_of_lt (rung_lt (by omega)))
/-- Below it by one a bit at most. -/
theorem hgo_lower {e : Nat} : ∀ {d : Nat} (t : Nat),d ≤ 32 → t * XX d e ≤ (hgo d e t + d) * BB ^ d
  | 0,t,_ => Nat.le_refl _
  | d + 1,t,h => by
    rw [hgo,XX,Nat.pow_succ]
    unfold fac
    split
    · have:=hgo_lower (e:=e) t (d:=d) (by omega)
      calc t * (BB * XX d e) = t * XX d e * BB:=by rw [Nat.mul_comm BB,Nat.mul_assoc]
        _ ≤ (hgo d e t + d) * BB ^ d * BB:=Nat.mul_le_mul_right _ this
        _ = (hgo d e t + d) * (BB ^ d * BB):=by rw [Nat.mul_assoc]
        _ ≤ (hgo d e t + (d + 1)) * (BB ^ d * BB):=Nat.mul_le_mul_right _ (by omega)
    · have:=hgo_lower (e:=e) (t * rung d / BB) (d:=d) (by omega)
      have h2 : t * rung d ≤ (t * rung d / BB + 1) * BB:=by
        have:=Nat.lt_div_mul_add (a:=t * rung d) (b:=BB) (by decide)
        rw [Nat.add_mul,Nat.one_mul]
        omega
      have hx:=XX_le (e:=e) (d:=d) (by omega)
      calc t * (rung d * XX d e) = t * rung d * XX d e:=by rw [Nat.mul_assoc]
        _ ≤ (t * rung d / BB + 1) * BB * XX d e:=Nat.mul_le_mul_right _ h2
        _ = (t * rung d / BB * XX d e + XX d e) * BB:=by rw [Nat.mul_right_comm,Nat.add_mul (t * rung d / BB),Nat.one_mul]
        _ ≤ ((hgo d e (t * rung d / BB) + d) * BB ^ d + BB ^ d) * BB:=Nat.mul_le_mul_right _ (Nat.add_le_add this hx)
        _ = (hgo d e (t * rung d / BB) + (d + 1)) * (BB ^ d * BB):=by rw [← Nat.mul_assoc,← Nat.add_assoc,Nat.add_mul (_ + d) 1,Nat.one_mul]
/-- Enough is left,whatever bits follow. -/
def Good (d t : Nat) : Prop:=(4611686018427387904 + d) * BB ^ d ≤ t * OO d
theorem Good.zero {d t : Nat} (h : d + 1 ≤ 32) (g : Good (d + 1) t) : Good d t:=by
  unfold Good at *
  rw [Nat.pow_succ,OO] at g
  have h1 : t * (rung d * OO d) ≤ t * OO d * BB:=by
    rw [Nat.mul_assoc,Nat.mul_comm (rung d)]
    exact Nat.mul_le_mul_left _ (Nat.mul_le_mul_left _ (Nat.le_of_lt (rung_lt (by omega))))
  have h2 : (4611686018427387904 + d) * BB ^ d * BB ≤ t * OO d * BB:=by
    refine Nat.le_trans ?_ (Nat.le_trans g h1)
    rw [Nat.mul_assoc]
    exact Nat.mul_le_mul_right _ (by omega)
  exact Nat.le_of_mul_le_mul_right h2 (by decide)
theorem Good.one {d t : Nat} (h : d + 1 ≤ 32) (g : Good (d + 1) t) : Good d (t * rung d / BB):=by
  unfold Good at *
  rw [Nat.pow_succ,OO] at g
  have h2 : t * rung d ≤ (t * rung d / BB + 1) * BB:=by
    have:=Nat.lt_div_mul_add (a:=t * rung d) (b:=BB) (by decide)
    rw [Nat.add_mul,Nat.one_mul]
    omega
  have h3 : (4611686018427387904 + (d + 1)) * (BB ^ d * BB) ≤ (t * rung d / BB + 1) * OO d * BB:=by
    refine Nat.le_trans g ?_
    rw [← Nat.mul_assoc,Nat.mul_right_comm (t * rung d / BB + 1)]
    exact Nat.mul_le_mul_right _ h2
  rw [← Nat.mul_assoc] at h3
  have h4:=Nat.le_of_mul_le_mul_right h3 (show 0 < BB by decide)
  rw [← Nat.add_assoc,Nat.add_mul (_ + d) 1,Nat.one_mul,Nat.add_mul (t * rung d / BB) 1,Nat.one_mul] at h4
  have:=OO_le' (d:=d) (by omega)
  omega
theorem Good.ge {d t : Nat} (h : d ≤ 32) (g : Good d t) : 4611686018427387904 ≤ t:=by
  unfold Good at g
  have h1 : t * OO d ≤ t * BB ^ d:=Nat.mul_le_mul_left _ (OO_le' h)
  have h2 : 4611686018427387904 * BB ^ d ≤ t * BB ^ d:=Nat.le_trans (Nat.mul_le_mul_right _ (by omega)) (Nat.le_trans g h1)
  exact Nat.le_of_mul_le_mul_right h2 (Nat.pow_pos (by decide))
theorem Good.start : Good 32 9223372036854775808:=by unfold Good;decide +kernel
theorem hgo_ge {e : Nat} : ∀ {d : Nat} {t : Nat},d ≤ 32 → Good d t → 4611686018427387904 ≤ hgo d e t
  | 0,t,h,g => g.ge h
  | d + 1,t,h,g => by
    rw [hgo]
    split
    · exact hgo_ge (by omega) (g.zero h)
    · exact hgo_ge (by omega) (g.one h)
/-- A bit more is not less than all that follow. -/
theorem key : ∀ d : Fin 32,4611686018427387904 * (rung d.val * BB ^ d.val) + d.val * BB ^ (d.val + 1) ≤ 4611686018427387904 * (OO d.val * BB):=by decide +kernel
theorem key' {d t : Nat} (h : d < 32) (ht : 4611686018427387904 ≤ t) : t * (rung d * BB ^ d) + d * BB ^ (d + 1) ≤ t * (OO d * BB):=by
  have k:=key ⟨d,h⟩
  obtain ⟨s,rfl⟩:=Nat.le.dest ht
  have h2 : rung d * BB ^ d ≤ OO d * BB:=by
    have : 4611686018427387904 * (rung d * BB ^ d) ≤ 4611686018427387904 * (OO d * BB):=Nat.le_trans (Nat.le_add_right _ _) k
    exact Nat.le_of_mul_le_mul_left this (by decide)
  have h3:=Nat.mul_le_mul_left s h2
  rw [Nat.add_mul,Nat.add_mul]
  simp only at k
  omega
theorem bit_lt (e d : Nat) : bit e d < 2:=Nat.mod_lt _ (by decide)
theorem split_bit (e d : Nat) : e % 2 ^ (d + 1) = bit e d * 2 ^ d + e % 2 ^ d:=by
  unfold bit
  rw [Nat.pow_succ,Nat.mod_mul,Nat.mul_comm (2 ^ d),Nat.add_comm]
/-- A greater exponent does not give more. -/
theorem hgo_mono : ∀ {d : Nat} {e f t : Nat},d ≤ 32 → Good d t → e % 2 ^ d ≤ f % 2 ^ d → hgo d f t ≤ hgo d e t
  | 0,e,f,t,_,_,_ => Nat.le_refl _
  | d + 1,e,f,t,h,g,hl => by
    rw [split_bit,split_bit] at hl
    have b1:=bit_lt e d;have b2:=bit_lt f d
    have m1 : e % 2 ^ d < 2 ^ d:=Nat.mod_lt _ (Nat.pow_pos (by decide));have m2 : f % 2 ^ d < 2 ^ d:=Nat.mod_lt _ (Nat.pow_pos (by decide))
    rw [hgo,hgo]
    by_cases be : bit e d = 0
    · by_cases bf : bit f d = 0
      · rw [if_pos be,if_pos bf]
        rw [be,bf] at hl
        exact hgo_mono (by omega) (g.zero h) (by omega)
      · rw [if_pos be,if_neg bf]
        refine Nat.le_trans (hgo_le (by omega)) ?_
        have lo:=hgo_lower (e:=e) t (d:=d) (by omega)
        have ht:=g.ge h
        have k:=key' (d:=d) (by omega) ht
        have ho : t * (OO d * BB) ≤ (hgo d e t + d) * BB ^ d * BB:=by
          rw [← Nat.mul_assoc]
          exact Nat.mul_le_mul_right _ (Nat.le_trans (Nat.mul_le_mul_left _ (OO_le (by omega))) lo)
        have h5 : t * rung d * BB ^ d ≤ hgo d e t * BB * BB ^ d:=by
          have e1 : (hgo d e t + d) * BB ^ d * BB = hgo d e t * BB * BB ^ d + d * BB ^ (d + 1):=by
            rw [Nat.pow_succ,Nat.add_mul,Nat.add_mul,Nat.mul_right_comm,← Nat.mul_assoc d]
          rw [e1] at ho
          rw [Nat.mul_assoc]
          omega
        have h6:=Nat.le_of_mul_le_mul_right h5 (Nat.pow_pos (by decide))
        apply Nat.div_le_of_le_mul
        rw [Nat.mul_comm BB]
        exact h6
    · have be1 : bit e d = 1:=by omega
      have bf1 : bit f d = 1:=by
        rcases (show bit f d = 0 ∨ bit f d = 1 by omega) with z | z
        · rw [be1,z] at hl;omega
        · exact z
      rw [if_neg be,if_neg (by omega)]
      rw [be1,bf1] at hl
      exact hgo_mono (by omega) (g.one h) (by omega)
end Go.Proofs.YtbhijfbjdbjpbaaDoor.Q
namespace Go.Proofs.YtbhijfbjdbjpbaaDoor.Q
def gg (e : Nat) : Nat:=hgo 32 e 9223372036854775808
def HH (e : Nat) : Nat:=if e / 4294967296 ≥ 63 then 0 else gg e / 2 ^ (e / 4294967296)
theorem gg_le (e : Nat) : gg e ≤ 9223372036854775808:=hgo_le (by decide)
theorem gg_ge (e : Nat) : 4611686018427387904 ≤ gg e:=hgo_ge (by decide) Good.start
theorem HH_le (e : Nat) : HH e ≤ 9223372036854775808:=by
  unfold HH
  split
  · omega
  · exact Nat.le_trans (Nat.div_le_self _ _) (gg_le e)
/-- A greater exponent never gives more. -/
theorem HH_mono {e f : Nat} (h : e ≤ f) : HH f ≤ HH e:=by
  unfold HH
  have hd : e / 4294967296 ≤ f / 4294967296:=Nat.div_le_div_right h
  by_cases cf : f / 4294967296 ≥ 63
  · rw [if_pos cf];exact Nat.zero_le _
  · rw [if_neg cf,if_neg (by omega)]
    by_cases c : e / 4294967296 = f / 4294967296
    · rw [c]
      apply Nat.div_le_div_right
      exact hgo_mono (by decide) Good.start (by simp only [Nat.reducePow];omega)
    · obtain ⟨m,hm⟩ : ∃ m,f / 4294967296 = e / 4294967296 + 1 + m:=⟨f / 4294967296 - e / 4294967296 - 1,by omega⟩
      rw [hm]
      refine Nat.le_trans (Nat.div_le_div_left (Nat.pow_le_pow_right (by decide) (Nat.le_add_right _ m)) (Nat.pow_pos (by decide))) ?_
      rw [Nat.pow_succ,Nat.mul_comm,← Nat.div_div_eq_div_mul]
      apply Nat.div_le_div_right
      have:=gg_le f;have:=gg_ge e
      omega
end Go.Proofs.YtbhijfbjdbjpbaaDoor.Q
namespace Go.Proofs.YtbhijfbjdbjpbaaDoor.Q
open Go.RowKit Go.Proofs.YtbhijfbjdbjpbaaDoor.GSH Go.Proofs.YtbhijfbjdbjpbaaDoorW.PrintWords Go.Proofs.YtbhijfbjdbjpbaaDoorW.PrintLast Go.Proofs.YtbhijfbjdbjpbaaDoorW.PrintMore
theorem and_bit (E d : Nat) (hE : E < 18446744073709551616) (hd : d < 64) : Go.bits .and .u64 (E : Int) (IntKind.u64.wrap (2 ^ d)) = 0 ↔ bit E d = 0:=by
  have p:=pow_bd d (by omega)
  have p0:=pow_pos_ d
  have hlt : (2 : Nat) ^ d < 2 ^ 64:=Nat.pow_lt_pow_right (by decide) hd
  have e2 : (2 : Int) ^ d = ((2 ^ d : Nat) : Int):=by simp
  have hw : IntKind.u64.wrap (2 ^ d) = ((2 ^ d : Nat) : Int):=by
    rw [e2,wraps_u64 _ (by omega) (by exact_mod_cast hlt)]
  rw [hw,(bits_nat .u64 64 (by decide) wraps_u64 E (2 ^ d) (by omega) hlt).1]
  have hb : bit E d = 0 ↔ E.testBit d = false:=by
    rw [Nat.testBit_eq_decide_div_mod_eq]
    unfold bit
    have:=Nat.mod_lt (E / 2 ^ d) (show 0 < 2 by decide)
    simp
  rw [hb]
  constructor
  · intro h
    have h0 : E &&& 2 ^ d = 0:=by exact_mod_cast h
    have h1:=congrArg (fun x => x.testBit d) h0
    simpa [Nat.testBit_and,Nat.testBit_two_pow_self] using h1
  · intro h
    have h0 : E &&& 2 ^ d = 0:=by
      apply Nat.eq_of_testBit_eq
      intro i
      rw [Nat.testBit_and,Nat.testBit_two_pow,Nat.zero_testBit]
      by_cases c : d = i
      · subst c
        simp [h]
      · simp [c]
    rw [h0];rfl
theorem rd_rung {d : Nat} (h : d < 32) : rd rungsL ((31 - d : Nat) : Int) = ((rung d : Nat) : Int):=by
  have : ∀ d : Fin 32,rd rungsL ((31 - d.val : Nat) : Int) = ((rung d.val : Nat) : Int):=by decide +kernel
  exact this ⟨d,h⟩
theorem go_half : ∀ {d : Nat} {E T : Nat},d ≤ 32 → E < 18446744073709551616 → T ≤ 9223372036854775808 → ladder_Half.go d (E : Int) (T : Int) = some ((hgo d E T : Nat) : Int)
  | 0,_,_,_,_,_ => rfl
  | d + 1,E,T,h,hE,hT => by
    simp only [ladder_Half.go]
    rw [hgo]
    have hr : rung d < 18446744073709551616:=rung_lt (d:=d) (by omega)
    by_cases c : bit E d = 0
    · rw [if_pos ((and_bit E d hE (by omega)).2 c),if_pos c]
      exact go_half (by omega) hE hT
    · rw [if_neg (fun h => c ((and_bit E d hE (by omega)).1 h)),if_neg c,rd_rung (by omega)]
      rw [wmul ⟨by omega,by omega⟩ ⟨by omega,by omega⟩]
      simp only [Option.bind_some]
      have e : (T : Int) * ((rung d : Nat) : Int) / 18446744073709551616 = ((T * rung d / BB : Nat) : Int):=by simp
      rw [e]
      refine go_half (by omega) hE ?_
      apply Nat.div_le_of_le_mul
      rw [Nat.mul_comm BB]
      exact Nat.le_trans (Nat.mul_le_mul_left _ (Nat.le_of_lt hr)) (Nat.mul_le_mul_right _ hT)
theorem half (E : Nat) (hE : E < 18446744073709551616) : ladder_Half.f (E : Int) = some ((HH E : Nat) : Int):=by
  unfold ladder_Half.f HH
  by_cases c : E / 4294967296 ≥ 63
  · rw [if_pos (by omega),if_pos c];rfl
  · rw [if_neg (by omega),if_neg c,if_pos (by omega)]
    have:=go_half (d:=32) (E:=E) (T:=9223372036854775808) (by omega) hE (by omega)
    rw [show ((9223372036854775808 : Nat) : Int) = 9223372036854775808 from rfl] at this
    rw [this]
    simp only [Option.bind_some]
    have e : ((E : Int) / 4294967296).toNat = E / 4294967296:=by omega
    rw [e]
    unfold gg
    simp
theorem half_i {e : Int} (h : U e) : ladder_Half.f e = some ((HH e.toNat : Nat) : Int):=by
  obtain ⟨h0,h1⟩:=h
  obtain ⟨E,rfl⟩:=Int.eq_ofNat_of_zero_le h0
  rw [Int.toNat_natCast]
  exact half E (by omega)
end Go.Proofs.YtbhijfbjdbjpbaaDoor.Q
namespace Go.Proofs.YtbhijfbjdbjpbaaDoor.Q
open Go.RowKit Go.Proofs.YtbhijfbjdbjpbaaDoorW.PrintWords Go.Proofs.YtbhijfbjdbjpbaaDoorW.PrintLast Go.Proofs.YtbhijfbjdbjpbaaDoorW.PrintMore
/-- A config within its ranges. -/
structure Cfg (N Q L A F S P H : Int) : Prop where
  n0 : 1 ≤ N
  n1 : N ≤ 256
  q0 : 1 ≤ Q
  q1 : Q ≤ 128
  l0 : 1 ≤ L
  l1 : L ≤ 1048576
  a0 : 1 ≤ A
  a1 : A ≤ 1048576
  f0 : 0 ≤ F
  f1 : F ≤ 1048576
  s0 : 0 ≤ S
  s1 : S ≤ 1048576
  p0 : 1 ≤ P
  p1 : P ≤ 1048576
  h0 : 1 ≤ H
  h1 : H ≤ 1073741824
def within (x lo hi : Int) : Bool:=decide (lo ≤ x ∧ x ≤ hi)
def inR (N Q L A F S P H : Int) : Bool:=within N 1 256 && within Q 1 128 && within L 1 1048576 && within A 1 1048576 && within F 0 1048576 && within S 0 1048576 && within P 1 1048576 && within H 1 1073741824
theorem inR_cfg {N Q L A F S P H : Int} (h : inR N Q L A F S P H = true) : Cfg N Q L A F S P H:=by
  unfold inR within at h
  simp only [Bool.and_eq_true,decide_eq_true_eq] at h
  obtain ⟨⟨⟨⟨⟨⟨⟨⟨a,b⟩,c,d⟩,e,f⟩,g,i⟩,j,k⟩,l,m⟩,n,o⟩,p,q⟩:=h
  exact ⟨a,b,c,d,e,f,g,i,j,k,l,m,n,o,p,q⟩
theorem prod_bd {x y a b : Int} (x0 : 0 ≤ x) (xa : x ≤ a) (y0 : 0 ≤ y) (yb : y ≤ b) : 0 ≤ x * y ∧ x * y ≤ a * b:=
  ⟨Int.mul_nonneg x0 y0,Int.le_trans (Int.mul_le_mul_of_nonneg_right xa y0) (Int.mul_le_mul_of_nonneg_left yb (by omega))⟩
/-- The exponent,and for how many periods a usage stands. -/
def eV (P H : Int) : Int:=P * 4294967296 / H
def keepV (P H : Int) : Int:=if (8589934592 + eV P H - 1) / eV P H < 2 then 2 else (8589934592 + eV P H - 1) / eV P H
theorem eV_bd {P H : Int} (p0 : 1 ≤ P) (p1 : P ≤ 1048576) (h0 : 1 ≤ H) (h1 : H ≤ 1073741824) : 4 ≤ eV P H ∧ eV P H ≤ 4503599627370496:=by
  unfold eV
  have:=Int.ediv_le_self (a:=P * 4294967296) H (by omega)
  refine ⟨?_,by omega⟩
  rw [Int.le_ediv_iff_mul_le (by omega)]
  omega
theorem up_bd {E : Int} (h : 4 ≤ E) : 0 ≤ (8589934592 + E - 1) / E ∧ (8589934592 + E - 1) / E ≤ 2147483649:=by
  refine ⟨Int.ediv_nonneg (by omega) (by omega),?_⟩
  have h2 : (8589934592 + E - 1) / E < 2147483650:=by
    rw [Int.ediv_lt_iff_lt_mul (by omega)]
    omega
  omega
theorem keep_bd {P H : Int} (p0 : 1 ≤ P) (p1 : P ≤ 1048576) (h0 : 1 ≤ H) (h1 : H ≤ 1073741824) : 2 ≤ keepV P H ∧ keepV P H ≤ 2147483649:=by
  have:=up_bd (eV_bd p0 p1 h0 h1).1
  unfold keepV
  split <;> omega
/-- Nodes by ticks;the greatest usage;the greatest priority that is not age. -/
def mostV (N P H : Int) : Int:=N * P * keepV P H
def fsV (N F S : Int) : Int:=F + S * N
theorem area_bd {N P : Int} (n0 : 1 ≤ N) (n1 : N ≤ 256) (p0 : 1 ≤ P) (p1 : P ≤ 1048576) : 1 ≤ N * P ∧ N * P ≤ 268435456:=by
  have h:=prod_bd (x:=N) (y:=P) (a:=256) (b:=1048576) (by omega) n1 (by omega) p1
  have h2 : 1 * P ≤ N * P:=Int.mul_le_mul_of_nonneg_right n0 (by omega)
  omega
theorem most_bd {N P H : Int} (n0 : 1 ≤ N) (n1 : N ≤ 256) (p0 : 1 ≤ P) (p1 : P ≤ 1048576) (h0 : 1 ≤ H) (h1 : H ≤ 1073741824) : keepV P H ≤ mostV N P H ∧ 2 * (N * P) ≤ mostV N P H ∧ mostV N P H ≤ 576460752571858944:=by
  have a:=area_bd n0 n1 p0 p1
  have k:=keep_bd p0 p1 h0 h1
  unfold mostV
  have h:=prod_bd (x:=N * P) (y:=keepV P H) (a:=268435456) (b:=2147483649) (by omega) a.2 (by omega) k.2
  have h2 : 1 * keepV P H ≤ N * P * keepV P H:=Int.mul_le_mul_of_nonneg_right a.1 (by omega)
  have h3 : N * P * 2 ≤ N * P * keepV P H:=Int.mul_le_mul_of_nonneg_left k.1 (by omega)
  omega
theorem sn_bd {N S : Int} (n0 : 1 ≤ N) (n1 : N ≤ 256) (s0 : 0 ≤ S) (s1 : S ≤ 1048576) : 0 ≤ S * N ∧ S * N ≤ 268435456:=by
  have h:=prod_bd (x:=S) (y:=N) (a:=1048576) (b:=256) s0 s1 (by omega) n1
  omega
def leadV (N A F S : Int) : Int:=fsV N F S / A
def boundV (N Q L A F S : Int) : Int:=leadV N A F S + 1 + Q * L
theorem lead_bd {N A F S : Int} (a0 : 1 ≤ A) (h0 : 0 ≤ fsV N F S) (h1 : fsV N F S ≤ 269484032) : 0 ≤ leadV N A F S ∧ leadV N A F S ≤ 269484032:=by
  unfold leadV
  refine ⟨Int.ediv_nonneg h0 (by omega),?_⟩
  have:=Int.ediv_le_self (a:=fsV N F S) A h0
  omega
/-- The two numbers of Off,where Fair is not 0. -/
def gV (N P H : Int) : Int:=keepV P H * (1 + (mostV N P H * 81 + 2147483648 - 1) / 2147483648)
def xV (N P H : Int) : Int:=258048 * gV N P H + 2 * (N * P)
def denV (N P : Int) : Int:=N * P * 4294967296
def numV (N F P H : Int) : Int:=F * xV N P H + denV N P
theorem g_bd {N P H : Int} (k0 : 2 ≤ keepV P H) (k1 : keepV P H ≤ mostV N P H) (m : mostV N P H ≤ 2147483648) : 0 ≤ gV N P H ∧ gV N P H ≤ 178241142784:=by
  unfold gV
  have h:=prod_bd (x:=keepV P H) (y:=1 + (mostV N P H * 81 + 2147483648 - 1) / 2147483648) (a:=2147483648) (b:=83) (by omega) (by omega) (by omega) (by omega)
  omega
theorem x_bd {N P H : Int} (a0 : 1 ≤ N * P) (a1 : N * P ≤ 268435456) (g0 : 0 ≤ gV N P H) (g1 : gV N P H ≤ 178241142784) : 0 ≤ xV N P H ∧ xV N P H ≤ 46000000000000000:=by
  unfold xV
  omega
theorem num_bd {N F P H : Int} (f0 : 0 ≤ F) (f1 : F ≤ 1048576) (a0 : 1 ≤ N * P) (a1 : N * P ≤ 268435456) (x0 : 0 ≤ xV N P H) (x1 : xV N P H ≤ 46000000000000000) : 0 ≤ F * xV N P H ∧ F * xV N P H ≤ 48234496000000000000000 ∧ 4294967296 ≤ numV N F P H ∧ numV N F P H ≤ 48235648921504606846976:=by
  have h:=prod_bd (x:=F) (y:=xV N P H) (a:=1048576) (b:=46000000000000000) f0 f1 x0 x1
  unfold numV denV
  omega
end Go.Proofs.YtbhijfbjdbjpbaaDoor.Q
namespace Go.Proofs.YtbhijfbjdbjpbaaDoor.Q
open Go.RowKit Go.Proofs.YtbhijfbjdbjpbaaDoor.GSH Go.Proofs.YtbhijfbjdbjpbaaDoorW.PrintWords Go.Proofs.YtbhijfbjdbjpbaaDoorW.PrintLast Go.Proofs.YtbhijfbjdbjpbaaDoorW.PrintMore
theorem umod' (x : Int) : U (x % 18446744073709551616):=⟨by omega,by omega⟩
/-- A product of three words. -/
def timesV (h l y : Int) : Int × Int × Bool:=if h * y / 18446744073709551616 > 0 then (18446744073709551615,18446744073709551615,false) else addV (l * y) (V (h * y % 18446744073709551616) 0)
theorem wtimes {h l y : Int} (hh : U h) (hl : U l) (hy : U y) : wide_Times.f h l y = some (timesV h l y):=by
  unfold wide_Times.f timesV
  rw [wmul hl hy,wmul hh hy]
  simp only [Option.bind_some]
  have m1:=mul_bd hl hy
  by_cases c : h * y / 18446744073709551616 > 0
  · rw [if_pos c,if_pos c];rfl
  · rw [if_neg c,if_neg c,wadd ⟨by omega,by omega⟩ (umod' _) (umod' _) ⟨by omega,by omega⟩]
    simp only [Option.bind_some]
    rw [show V (l * y / 18446744073709551616) (l * y % 18446744073709551616) = l * y by unfold V;omega]
theorem times_fits {q y : Int} (hq : 0 ≤ q) (hy : 0 ≤ y) (hb : q * y < 340282366920938463463374607431768211456) : timesV (q / 18446744073709551616) (q % 18446744073709551616) y = (q * y / 18446744073709551616,q * y % 18446744073709551616,true):=by
  unfold timesV
  have e : q * y = q / 18446744073709551616 * y * 18446744073709551616 + q % 18446744073709551616 * y:=by
    have : q = q / 18446744073709551616 * 18446744073709551616 + q % 18446744073709551616:=by omega
    generalize q / 18446744073709551616 = a at *
    generalize q % 18446744073709551616 = b at *
    subst this
    grind
  have n1 : 0 ≤ q / 18446744073709551616 * y:=Int.mul_nonneg (by omega) hy
  have n2 : 0 ≤ q % 18446744073709551616 * y:=Int.mul_nonneg (by omega) hy
  generalize q / 18446744073709551616 * y = A at *
  generalize q % 18446744073709551616 * y = B at *
  rw [if_neg (by omega)]
  have hs : B + V (A % 18446744073709551616) 0 = q * y:=by unfold V;omega
  unfold addV
  rw [hs,if_pos hb]
end Go.Proofs.YtbhijfbjdbjpbaaDoor.Q
namespace Go.Proofs.YtbhijfbjdbjpbaaDoor.Q
open Go.RowKit Go.Proofs.YtbhijfbjdbjpbaaDoorW.PrintWords Go.Proofs.YtbhijfbjdbjpbaaDoorW.PrintLast Go.Proofs.YtbhijfbjdbjpbaaDoorW.PrintMore
/-- All that is needed of a config within its ranges. -/
structure Bds (N Q L A F S P H : Int) : Prop extends Cfg N Q L A F S P H where
  e0 : 4 ≤ eV P H
  e1 : eV P H ≤ 4503599627370496
  k0 : 2 ≤ keepV P H
  k1 : keepV P H ≤ 2147483649
  c0 : 1 ≤ N * P
  c1 : N * P ≤ 268435456
  m0 : keepV P H ≤ mostV N P H
  m2 : 2 * (N * P) ≤ mostV N P H
  m1 : mostV N P H ≤ 576460752571858944
  sn0 : 0 ≤ S * N
  sn1 : S * N ≤ 268435456
  fs0 : 0 ≤ fsV N F S
  fs1 : fsV N F S ≤ 269484032
  ld0 : 0 ≤ leadV N A F S
  ld1 : leadV N A F S ≤ 269484032
  ql0 : 0 ≤ Q * L
  ql1 : Q * L ≤ 134217728
  b0 : 1 ≤ boundV N Q L A F S
  b1 : boundV N Q L A F S ≤ 403701761
  ab0 : 0 ≤ A * boundV N Q L A F S
  ab1 : A * boundV N Q L A F S ≤ 423311977742336
theorem bds {N Q L A F S P H : Int} (C : Cfg N Q L A F S P H) : Bds N Q L A F S P H:=by
  obtain ⟨n0,n1,q0,q1,l0,l1,a0,a1,f0,f1,s0,s1,p0,p1,h0,h1⟩:=C
  obtain ⟨e0,e1⟩:=eV_bd p0 p1 h0 h1
  obtain ⟨k0,k1⟩:=keep_bd p0 p1 h0 h1
  obtain ⟨c0,c1⟩:=area_bd n0 n1 p0 p1
  obtain ⟨m0,m2,m1⟩:=most_bd n0 n1 p0 p1 h0 h1
  obtain ⟨sn0,sn1⟩:=sn_bd n0 n1 s0 s1
  have fs0 : 0 ≤ fsV N F S:=by unfold fsV;omega
  have fs1 : fsV N F S ≤ 269484032:=by unfold fsV;omega
  obtain ⟨ld0,ld1⟩:=lead_bd (A:=A) a0 fs0 fs1
  have hq:=prod_bd (x:=Q) (y:=L) (a:=128) (b:=1048576) (by omega) q1 (by omega) l1
  have b0 : 1 ≤ boundV N Q L A F S:=by unfold boundV;omega
  have b1 : boundV N Q L A F S ≤ 403701761:=by unfold boundV;omega
  have hab:=prod_bd (x:=A) (y:=boundV N Q L A F S) (a:=1048576) (b:=403701761) (by omega) a1 (by omega) b1
  exact ⟨⟨n0,n1,q0,q1,l0,l1,a0,a1,f0,f1,s0,s1,p0,p1,h0,h1⟩,e0,e1,k0,k1,c0,c1,m0,m2,m1,sn0,sn1,fs0,fs1,ld0,ld1,hq.1,by omega,b0,b1,hab.1,by omega⟩
/-- The two numbers of Off,as words. -/
def bndV (N F P H : Int) : Int × Int × Int × Int:=if F = 0 then (0,0,0,1) else (numV N F P H / 18446744073709551616,numV N F P H % 18446744073709551616,denV N P / 18446744073709551616,denV N P % 18446744073709551616)
def offV (N Q L A F S P H : Int) : Int:=if cmpV (V (timesV (bndV N F P H).1 (bndV N F P H).2.1 1000).1 (timesV (bndV N F P H).1 (bndV N F P H).2.1 1000).2.1) (V (timesV (bndV N F P H).2.2.1 (bndV N F P H).2.2.2 (A * boundV N Q L A F S + fsV N F S)).1 (timesV (bndV N F P H).2.2.1 (bndV N F P H).2.2.2 (A * boundV N Q L A F S + fsV N F S)).2.1) > 0 then 113 else 0
def checkV (N Q L A F S P H : Int) : Int:=if inR N Q L A F S P H = true then (if mostV N P H > 2147483648 then 111 else if A * 1099511627776 + fsV N F S ≥ 4611686018427387904 then 112 else offV N Q L A F S P H) else 110
theorem num_of {N Q L A F S P H : Int} (B : Bds N Q L A F S P H) (hm : mostV N P H ≤ 2147483648) : 0 ≤ gV N P H ∧ gV N P H ≤ 178241142784 ∧ 0 ≤ xV N P H ∧ xV N P H ≤ 46000000000000000 ∧ 0 ≤ F * xV N P H ∧ F * xV N P H ≤ 48234496000000000000000 ∧ 4294967296 ≤ numV N F P H ∧ numV N F P H ≤ 48235648921504606846976:=by
  obtain ⟨g0,g1⟩:=g_bd B.k0 B.m0 hm
  obtain ⟨x0,x1⟩:=x_bd B.c0 B.c1 g0 g1
  obtain ⟨f0,f1,n0,n1⟩:=num_bd (H:=H) B.f0 B.f1 B.c0 B.c1 x0 x1
  exact ⟨g0,g1,x0,x1,f0,f1,n0,n1⟩
theorem bnd_U {N Q L A F S P H : Int} (B : Bds N Q L A F S P H) (hm : mostV N P H ≤ 2147483648) : U (bndV N F P H).1 ∧ U (bndV N F P H).2.1 ∧ U (bndV N F P H).2.2.1 ∧ U (bndV N F P H).2.2.2:=by
  obtain ⟨_,_,_,_,_,_,n0,n1⟩:=num_of B hm
  have c0:=B.c0
  have c1:=B.c1
  unfold bndV denV
  split
  · exact ⟨⟨by decide,by decide⟩,⟨by decide,by decide⟩,⟨by decide,by decide⟩,⟨by decide,by decide⟩⟩
  · refine ⟨⟨?_,?_⟩,⟨?_,?_⟩,⟨?_,?_⟩,⟨?_,?_⟩⟩ <;> dsimp only <;> omega
theorem times_U {h l y : Int} : U (timesV h l y).2.1:=by
  unfold timesV addV
  split
  · exact ⟨by decide,by decide⟩
  · split
    · exact umod' _
    · exact ⟨by decide,by decide⟩
end Go.Proofs.YtbhijfbjdbjpbaaDoor.Q
namespace Go.Proofs.YtbhijfbjdbjpbaaDoor.Q
open Go.RowKit Go.Proofs.YtbhijfbjdbjpbaaDoor.GSH Go.Proofs.YtbhijfbjdbjpbaaDoorW.PrintWords Go.Proofs.YtbhijfbjdbjpbaaDoorW.PrintLast Go.Proofs.YtbhijfbjdbjpbaaDoorW.PrintMore
theorem wshl {h l : Int} (hh : U h) (hl : U l) (n : Nat) (h0 : 0 < n) (h1 : n < 64) : wide_Shl.f h l (n : Int) = some (shlV h l n):=by
  unfold wide_Shl.f shlV
  rw [if_neg (by omega),if_pos (by omega),if_pos (by omega),wrap64_in (by omega) (by omega),if_pos (by omega)]
  rw [show (64 - (n : Int)) = ((64 - n : Nat) : Int) by omega,shl_at n (by omega),shr_at (64 - n) (by omega),shl_at n (by omega)]
  have d:=div_lt_pow (x:=l) n (by omega) hl
  have:=pow_bd n (by omega)
  rw [or_add n (umod _) (emod_pow n (by omega)) d.1 d.2 (by omega)]
end Go.Proofs.YtbhijfbjdbjpbaaDoor.Q
namespace Go.Proofs.YtbhijfbjdbjpbaaDoor.Q
open Go.RowKit Go.Proofs.YtbhijfbjdbjpbaaDoor.GSH Go.Proofs.YtbhijfbjdbjpbaaDoorW.PrintWords Go.Proofs.YtbhijfbjdbjpbaaDoorW.PrintLast Go.Proofs.YtbhijfbjdbjpbaaDoorW.PrintMore
theorem p_in (x lo hi : Int) : config_inside.f x lo hi = some (within x lo hi):=by
  unfold config_inside.f within
  by_cases c : x ≥ lo
  · rw [if_pos c];congr 1;by_cases d : x ≤ hi <;> simp [c,d]
  · rw [if_neg c];congr 1;simp;omega
theorem p_ranges (k : Nat) (hk : 3 ≤ k) (N Q L A F S P H : Int) : config_asked_ranges.f k N Q L A F S P H = some (if inR N Q L A F S P H = true then 0 else 110):=by
  obtain ⟨k,rfl⟩ : ∃ m,k = m + 2:=⟨k - 2,by omega⟩
  unfold config_asked_ranges.f inR
  simp only [config_asked_ranges.j0,config_asked_ranges.j1,p_in,Option.bind_some]
  generalize within N 1 256 = b0
  generalize within Q 1 128 = b1
  generalize within L 1 1048576 = b2
  generalize within A 1 1048576 = b3
  generalize within F 0 1048576 = b4
  generalize within S 0 1048576 = b5
  generalize within P 1 1048576 = b6
  generalize within H 1 1073741824 = b7
  cases b0 <;> cases b1 <;> cases b2 <;> cases b3 <;> cases b4 <;> cases b5 <;> cases b6 <;> cases b7 <;> rfl
section
variable {N Q L A F S P H : Int} (B : Bds N Q L A F S P H)
include B
theorem p_area : config_asked_area.f N Q L A F S P H = some (N * P):=by
  unfold config_asked_area.f
  rw [wrap64_in (by have:=B.c0;omega) (by have:=B.c1;omega)]
theorem p_keeps : config_asked_keeps.f N Q L A F S P H = some (keepV P H):=by
  obtain ⟨u0,u1⟩:=up_bd B.e0
  have e0:=B.e0;have e1:=B.e1;have p0:=B.p0;have p1:=B.p1;have h0:=B.h0
  unfold config_asked_keeps.f config_up.f mx
  rw [if_neg (by omega),wrap64_in (x:=P * 4294967296) (by omega) (by omega),tdiv_eq (by omega),show P * 4294967296 / H = eV P H from rfl,wrap64_in (x:=eV P H) (by omega) (by omega),if_neg (by omega)]
  rw [wrap64_in (x:=8589934592 + eV P H) (by omega) (by omega),wrap64_in (x:=8589934592 + eV P H - 1) (by omega) (by omega),tdiv_eq (by omega),wrap64_in (x:=(8589934592 + eV P H - 1) / eV P H) (by omega) (by omega)]
  simp only [Option.bind_some]
  unfold keepV
  congr 1
  split <;> split <;> omega
theorem p_most : config_asked_most.f N Q L A F S P H = some (mostV N P H):=by
  unfold config_asked_most.f
  rw [p_area B,p_keeps B]
  simp only [Option.bind_some]
  have m0:=B.m0;have m1:=B.m1;have k0:=B.k0
  rw [show N * P * keepV P H = mostV N P H from rfl,wrap64_in (by omega) (by omega)]
theorem p_fs : config_asked_fairSize.f N Q L A F S P H = some (fsV N F S):=by
  have a:=B.sn0;have b:=B.sn1;have f0:=B.f0;have f1:=B.f1
  unfold config_asked_fairSize.f fsV
  rw [wrap64_in (x:=S * N) (by omega) (by omega),wrap64_in (by omega) (by omega)]
theorem p_lead : config_asked_lead.f N Q L A F S P H = some (leadV N A F S):=by
  have a:=B.ld0;have b:=B.ld1;have c:=B.fs0;have d:=B.a0
  unfold config_asked_lead.f
  rw [p_fs B]
  simp only [Option.bind_some]
  rw [if_neg (by omega),tdiv_eq c,show fsV N F S / A = leadV N A F S from rfl,wrap64_in (by omega) (by omega)]
theorem p_bound : config_asked_bound.f N Q L A F S P H = some (boundV N Q L A F S):=by
  have a:=B.ld0;have b:=B.ld1;have c:=B.ql0;have d:=B.ql1
  unfold config_asked_bound.f boundV
  rw [p_lead B]
  simp only [Option.bind_some]
  rw [wrap64_in (x:=leadV N A F S + 1) (by omega) (by omega),wrap64_in (x:=Q * L) (by omega) (by omega),wrap64_in (by omega) (by omega)]
theorem p_usage : config_asked_usage.f N Q L A F S P H = some (if mostV N P H > 2147483648 then 111 else 0):=by
  unfold config_asked_usage.f
  rw [p_most B]
  simp only [Option.bind_some]
  split <;> rfl
theorem p_scale : config_asked_scale.f N Q L A F S P H = some (if A * 1099511627776 + fsV N F S ≥ 4611686018427387904 then 112 else 0):=by
  have a:=B.fs0;have b:=B.fs1;have c:=B.a0;have d:=B.a1
  unfold config_asked_scale.f
  rw [p_fs B]
  simp only [Option.bind_some]
  rw [wrap64_in (x:=A * 1099511627776) (by omega) (by omega),wrap64_in (by omega) (by omega)]
  split <;> rfl
theorem p_bounds (hm : mostV N P H ≤ 2147483648) : config_asked_bounds.f N Q L A F S P H = some (bndV N F P H):=by
  obtain ⟨g0,g1,x0,x1,fx0,fx1,n0,n1⟩:=num_of B hm
  have c0:=B.c0;have c1:=B.c1;have f0:=B.f0;have f1:=B.f1;have m0:=B.m0;have k0:=B.k0
  unfold config_asked_bounds.f bndV wide_Of.f
  by_cases c : F = 0
  · rw [if_pos c,if_pos c];rfl
  · rw [if_neg c,if_neg c,p_keeps B,p_most B,p_area B]
    simp only [Option.bind_some]
    unfold config_up.f
    have hd : 0 ≤ (mostV N P H * 81 + 2147483648 - 1) / 2147483648:=Int.ediv_nonneg (by omega) (by omega)
    rw [if_neg (by decide),wrap64_in (x:=mostV N P H * 81) (by omega) (by omega),wrap64_in (x:=mostV N P H * 81 + 2147483648) (by omega) (by omega),wrap64_in (x:=mostV N P H * 81 + 2147483648 - 1) (by omega) (by omega),tdiv_eq (by omega),wrap64_in (x:=(mostV N P H * 81 + 2147483648 - 1) / 2147483648) (by omega) (by omega)]
    simp only [Option.bind_some]
    rw [wrap64_in (x:=1 + (mostV N P H * 81 + 2147483648 - 1) / 2147483648) (by omega) (by omega),show keepV P H * (1 + (mostV N P H * 81 + 2147483648 - 1) / 2147483648) = gV N P H from rfl]
    rw [wrap64_in (x:=gV N P H) (by omega) (by omega),wrap64_in (x:=258048 * gV N P H) (by omega) (by omega),wrap64_in (x:=2 * (N * P)) (by omega) (by omega),show 258048 * gV N P H + 2 * (N * P) = xV N P H from rfl,wrap64_in (x:=xV N P H) (by omega) (by omega)]
    rw [w64_in (x:=N * P) (by omega) (by omega),w64_in (x:=F) (by omega) (by omega),w64_in (x:=xV N P H) (by omega) (by omega)]
    have hs:=wshl (h:=0) (l:=N * P) ⟨by omega,by omega⟩ ⟨by omega,by omega⟩ 32 (by decide) (by decide)
    rw [show ((32 : Nat) : Int) = 32 from rfl] at hs
    have hv : shlV 0 (N * P) 32 = (denV N P / 18446744073709551616,denV N P % 18446744073709551616):=by
      unfold shlV denV
      refine Prod.ext ?_ ?_
      · simp;omega
      · simp
    rw [hs,hv]
    simp only [Option.bind_some]
    rw [wtimes ⟨by omega,by omega⟩ ⟨by omega,by omega⟩ ⟨by omega,by omega⟩]
    have ht:=times_fits (q:=F) (y:=xV N P H) f0 x0 (by omega)
    rw [show F / 18446744073709551616 = 0 by omega,show F % 18446744073709551616 = F by omega] at ht
    rw [ht]
    simp only [Option.bind_some]
    unfold denV
    rw [wadd ⟨by omega,by omega⟩ (umod' _) ⟨by omega,by omega⟩ (umod' _)]
    simp only [Option.bind_some]
    unfold addV
    have e1 : V (F * xV N P H / 18446744073709551616) (F * xV N P H % 18446744073709551616) + V (N * P * 4294967296 / 18446744073709551616) (N * P * 4294967296 % 18446744073709551616) = numV N F P H:=by
      unfold V numV denV
      omega
    rw [e1,if_pos (by omega)]
theorem p_off (hm : mostV N P H ≤ 2147483648) : config_asked_off.f N Q L A F S P H = some (offV N Q L A F S P H):=by
  have a:=B.ab0;have b:=B.ab1;have c:=B.fs0;have d:=B.fs1
  obtain ⟨u0,u1,u2,u3⟩:=bnd_U B hm
  unfold config_asked_off.f offV
  rw [p_bounds B hm,p_bound B,p_fs B]
  simp only [Option.bind_some]
  rw [wrap64_in (x:=A * boundV N Q L A F S) (by omega) (by omega),wrap64_in (x:=A * boundV N Q L A F S + fsV N F S) (by omega) (by omega),w64_in (x:=A * boundV N Q L A F S + fsV N F S) (by omega) (by omega),wtimes u0 u1 ⟨by omega,by omega⟩,wtimes u2 u3 ⟨by omega,by omega⟩]
  simp only [Option.bind_some]
  rw [wcmp times_U times_U]
  simp only [Option.bind_some]
  split <;> rfl
end
theorem p_check (k : Nat) (hk : 3 ≤ k) (N Q L A F S P H : Int) : config_Check.f k N Q L A F S P H = some (checkV N Q L A F S P H):=by
  unfold config_Check.f checkV
  rw [p_ranges k hk]
  simp only [Option.bind_some]
  by_cases c : inR N Q L A F S P H = true
  · have B:=bds (inR_cfg c)
    rw [if_pos c,if_pos c,if_pos rfl,p_usage B]
    simp only [Option.bind_some]
    by_cases d : mostV N P H > 2147483648
    · rw [if_pos d,if_pos d,if_neg (by decide)]
    · rw [if_neg d,if_neg d,if_pos rfl,p_scale B]
      simp only [Option.bind_some]
      by_cases e : A * 1099511627776 + fsV N F S ≥ 4611686018427387904
      · rw [if_pos e,if_pos e,if_neg (by decide)]
      · rw [if_neg e,if_neg e,if_pos rfl,p_off B (by omega)]
  · rw [if_neg c,if_neg c,if_neg (by decide)]
end Go.Proofs.YtbhijfbjdbjpbaaDoor.Q
