/- The texts of this claim, put together by program, what it does not name left out: part 7. Conditions: each theorem's own. -/
import Derived.Test.YtodibpddlibneaaGreatDoorY6
set_option maxHeartbeats 8000000
set_option maxRecDepth 100000
namespace Go.Proofs.YtodibpddlibneaaGreatDoor.GSH
open Go.RowKit YtodibpddlibneaaGreatDoorW.PrintWords YtodibpddlibneaaGreatDoorW.PrintLast YtodibpddlibneaaGreatDoorW.PrintMore
attribute [local go_sem] max2_int min2_int max_two min_two max_three min_three max_four min_four   -- for this text's walks alone
set_option linter.unusedVariables false
set_option linter.unusedSimpArgs false
mutual
def backfillref13_Exponent.j0 : Nat → Int → Int → Int → Bool → Option (Int)
 | 0,_,_,_,_ => none
 | k + 1,x0,x1,x2,x3 => (backfillref01_Mul.f x0 x2).bind fun bt443 => ((backfillref01_Div.f k bt443.1 bt443.2 x1).bind fun bt445 => (if x3 = true then (backfillref13_Exponent.j1 k x3 (decide (bt445.2.2.1 > 0)) bt445.1 bt445.2.1) else (backfillref13_Exponent.j1 k x3 false bt445.1 bt445.2.1)))
def backfillref13_Exponent.j1 : Nat → Bool → Bool → Int → Int → Option (Int)
 | 0,_,_,_,_ => none
 | k + 1,x3,x33,x450000,x450001 => if x33 = true then ((backfillref01_Of.f 1).bind fun bt450 => ((backfillref01_Add.f x450000 x450001 bt450.1 bt450.2).bind fun bt452 => (backfillref13_Exponent.j2 k x3 bt452.1 bt452.2.1))) else (backfillref13_Exponent.j2 k x3 x450000 x450001)
def backfillref13_Exponent.j2 : Nat → Bool → Int → Int → Option (Int)
 | 0,_,_,_ => none
 | k + 1,x3,x450000,x450001 => (backfillref01_Div.f k x450000 x450001 2147483648).bind fun bt455 => (if x3 = true then (backfillref13_Exponent.j3 k (decide (bt455.2.2.1 > 0)) bt455.1 bt455.2.1) else (backfillref13_Exponent.j3 k false bt455.1 bt455.2.1))
def backfillref13_Exponent.j3 : Nat → Bool → Int → Int → Option (Int)
 | 0,_,_,_ => none
 | k + 1,x50,x460000,x460001 => if x50 = true then ((backfillref01_Of.f 1).bind fun bt460 => ((backfillref01_Add.f x460000 x460001 bt460.1 bt460.2).bind fun bt462 => (if bt462.1 > 0 then (some 18446744073709551615) else (some bt462.2.1)))) else (if x460000 > 0 then (some 18446744073709551615) else (some x460001))
end
def backfillref13_Exponent.f (k : Nat) (a0 : Int) (a1 : Int) (a2 : Int) (a3 : Bool) : Option (Int):=(backfillref01_Mul.f a1 4096).bind fun bt438 => ((backfillref01_Of.f a2).bind fun bt440 => ((backfillref01_Cmp.f k bt438.1 bt438.2 bt440.1 bt440.2).bind fun t442 => (if t442 < 0 then (backfillref13_Exponent.j0 k a0 1 4096 a3) else (backfillref13_Exponent.j0 k a0 a1 a2 a3))))
theorem backfillref13_Exponent.calls (k : Nat) (a0 : Int) (a1 : Int) (a2 : Int) (a3 : Bool) (r : Int) (w : World) (h : backfillref13_Exponent.f k a0 a1 a2 a3 = some r) :
  Calls Tryz.prog 24 #[.int .u64 a0,.int .u64 a1,.int .u64 a2,.bool a3] w fun e w' => e = .returned (.int .u64 r) ∧ Below w.heap.size w w':=by
 have hu60:=Tryz.underlying60;have HB:=Am (Below.refl w.heap.size w);have H : ((backfillref01_Mul.f a1 4096).bind fun bt438 => ((backfillref01_Of.f a2).bind fun bt440 => ((backfillref01_Cmp.f k bt438.1 bt438.2 bt440.1 bt440.2).bind fun t442 => (if t442 < 0 then (backfillref13_Exponent.j0 k a0 1 4096 a3) else (backfillref13_Exponent.j0 k a0 a1 a2 a3))))) = some r:=h;clear h;obtain ⟨⟨t438,t439⟩,A5,H⟩:=bnd H;(try dsimp only at H);obtain ⟨⟨t440,t441⟩,A6,H⟩:=bnd H;(try dsimp only at H);obtain ⟨t442,A7,H⟩:=bnd H;(try dsimp only at H);have HC8:=Am H;clear H;go_enter Tryz.func24,Tryz.ntmps24
 go_upto_if 19 with (first | ((with_reducible refine gate_callee (f:=51) rfl ?_);refine goesL_ (some 15) rfl rfl Tryz.func51 (by kernel_rfl) rfl #[.int .u64 a1,.int .u64 4096] rfl aA ?_;(with_reducible refine (backfillref01_Mul.calls a1 4096 t438 t439 _ A5.out).mono ?_);rintro e w9 ⟨rfl,hb⟩;refine ⟨_,rfl,?_⟩;replace HB:=hb_ hb;(try clear hb)) | ((with_reducible refine gate_callee (f:=52) rfl ?_);refine goesL_ (some 17) rfl rfl Tryz.func52 (by kernel_rfl) rfl #[.int .u64 a2] rfl aA ?_;(with_reducible refine (backfillref01_Of.calls a2 t440 t441 _ A6.out).mono ?_);rintro e w10 ⟨rfl,hb⟩;refine ⟨_,rfl,?_⟩;replace HB:=hb_ hb;(try clear hb)) | ((with_reducible refine gate_callee (f:=30) rfl ?_);refine goesL_ (some 18) rfl rfl Tryz.func30 (by kernel_rfl) rfl #[.agg #[.int .u64 t438,.int .u64 t439],.agg #[.int .u64 t440,.int .u64 t441]] rfl aA ?_;(with_reducible refine (backfillref01_Cmp.calls k t438 t439 t440 t441 t442 _ A7.out).mono ?_);rintro e w11 ⟨rfl,hb⟩;refine ⟨_,rfl,?_⟩;replace HB:=hb_ hb;(try clear hb)))
 (try simp only [Act.put,List.setIfInBounds_toArray,List.set_cons_zero,List.set_cons_succ])
 go_cut [1,2] (fun v1 v2 wc => ∃ (kq : Nat) (x1_7 : Int) (x2_7 : Int),v1 = .int .u64 x1_7 ∧ v2 = .int .u64 x2_7 ∧ Aside0 (backfillref13_Exponent.j0 kq a0 x1_7 x2_7 a3 = some r) ∧ Aside0 (kq ≤ k) ∧ Aside0 (Below w.heap.size w wc))
 case first =>
  have H:=HC8.out;clear HC8
  by_cases c12 : t442 < 0
  ·rw [if_pos c12] at H;have c12b0 : decide (t442 < 0) = true:=dT c12;clear c12
   (first | rw [c12b0] | (simp only [i64_w,i32_w];rw [c12b0]) | skip)
   have H':=Am H;clear H;go_wp2
   go_meet
   case rel => exact ⟨_,(1),(4096),(by first | rfl | (simp;done) | (simp [*];done)),(by first | rfl | (simp;done) | (simp [*];done)),H',⟨by first | omega | exact Nat.le_refl _⟩,⟨bA⟩⟩
  ·rw [if_neg c12] at H;have c12b0 : decide (t442 < 0) = false:=dF c12;clear c12
   (first | rw [c12b0] | (simp only [i64_w,i32_w];rw [c12b0]) | skip)
   have H':=Am H;clear H;go_wp2
   go_meet
   case rel => exact ⟨_,(a1),(a2),(by first | rfl | (simp;done) | (simp [*];done)),(by first | rfl | (simp;done) | (simp [*];done)),H',⟨by first | omega | exact Nat.le_refl _⟩,⟨bA⟩⟩
 case rest =>
  clear HC8
  try clear c1
  try clear c2
  try clear p2
  try clear c3
  try clear c5
  try clear c12
  try clear c12b0
  obtain ⟨kq,x1_7,x2_7,rfl,rfl,HA,HJ7,HB⟩:=hcut
  cases kq with
  | zero => exact absurd HA.out (by simp [backfillref13_Exponent.j0])
  | succ kj7 =>
   have H:=HA.out;clear HA;simp only [backfillref13_Exponent.j0] at H;obtain ⟨⟨t443,t444⟩,A13,H⟩:=bnd H;(try dsimp only at H);obtain ⟨⟨t445,t446,t447,t448⟩,A14,H⟩:=bnd H;(try dsimp only at H);have HC15:=Am H;clear H;go_upto_region 5 with (first | ((with_reducible refine gate_callee (f:=51) rfl ?_);refine goesL_ (some 23) rfl rfl Tryz.func51 (by kernel_rfl) rfl #[.int .u64 a0,.int .u64 x2_7] rfl aA ?_;(with_reducible refine (backfillref01_Mul.calls a0 x2_7 t443 t444 _ A13.out).mono ?_);rintro e w16 ⟨rfl,hb⟩;refine ⟨_,rfl,?_⟩;replace HB:=hb_ hb;(try clear hb)) | ((with_reducible refine gate_callee (f:=53) rfl ?_);refine goesL_ (some 25) rfl rfl Tryz.func53 (by kernel_rfl) rfl #[.agg #[.int .u64 t443,.int .u64 t444],.int .u64 x1_7] rfl aA ?_;(with_reducible refine (backfillref01_Div.calls kj7 t443 t444 x1_7 t445 t446 t447 t448 _ A14.out).mono ?_);rintro e w17 ⟨rfl,hb⟩;refine ⟨_,rfl,?_⟩;replace HB:=hb_ hb;(try clear hb)) | ((with_reducible refine gate_dst (N:=9) rfl ?_);refine bxA 9 #[.int .u64 0,.int .u64 0] 60 ?_;intro gb449 hg w18 hbox hb;have BK449:=Am (hbox);have GW449:=gW_ hg;have GE449:=gW_ hg;replace HB:=hb_ hb;clear hb hbox hg;obtain ⟨hcz19_0,hcz19_1,hfz19_0,hfz19_1⟩:=k2 BK449.out))
   (try simp only [Act.put,List.setIfInBounds_toArray,List.set_cons_zero,List.set_cons_succ])
   go_cut [33] (fun v33 wc => ∃ (kq : Nat) (x33_14 : Bool),v33 = .bool x33_14 ∧ Aside0 (backfillref13_Exponent.j1 kq a3 x33_14 t445 t446 = some r) ∧ Aside0 (kq ≤ kj7) ∧ Aside0 (wc.heap[gb449]? = some (.cells #[.int .u64 t445,.int .u64 t446] 60 (0,0))) ∧ Aside0 (Below w.heap.size w wc))
   case first =>
    have H:=HC15.out;clear HC15
    by_cases c20 : a3 = true
    ·subst c20;have H1 : (backfillref13_Exponent.j1 kj7 true (decide (t447 > 0)) t445 t446) = some r:=by rw [if_pos rfl] at H;exact H
     clear H;have H:=H1;clear H1;have H':=Am H;clear H;go_wp2
     go_meet
     case rel => exact ⟨_,(decide (t447 > 0)),(by first | rfl | (simp;done) | (simp [*];done)),H',⟨by have:=HJ7.out;first | omega | exact Nat.le_refl _⟩,⟨by (with_reducible repeat (first | refine b1 ?_ _ | refine b2 ?_ | refine b3 ?_ _));refine blk_put (cs:=#[.int .u64 t445,.int .u64 0]) ?_ 1 _ rfl;(with_reducible repeat (first | refine b1 ?_ _ | refine b2 ?_ | refine b3 ?_ _));refine blk_put (cs:=#[.int .u64 0,.int .u64 0]) ?_ 0 _ rfl;exact kA⟩,⟨bA⟩⟩
    ·replace c20:=Bool.eq_false_iff.mpr c20;subst c20;have H1 : (backfillref13_Exponent.j1 kj7 false false t445 t446) = some r:=by rw [if_neg (show ¬ (false = true) by decide)] at H;exact H
     clear H;have H:=H1;clear H1;have H':=Am H;clear H;go_wp2
     go_meet
     case rel => exact ⟨_,(false),(by first | rfl | (simp;done) | (simp [*];done)),H',⟨by have:=HJ7.out;first | omega | exact Nat.le_refl _⟩,⟨by (with_reducible repeat (first | refine b1 ?_ _ | refine b2 ?_ | refine b3 ?_ _));refine blk_put (cs:=#[.int .u64 t445,.int .u64 0]) ?_ 1 _ rfl;(with_reducible repeat (first | refine b1 ?_ _ | refine b2 ?_ | refine b3 ?_ _));refine blk_put (cs:=#[.int .u64 0,.int .u64 0]) ?_ 0 _ rfl;exact kA⟩,⟨bA⟩⟩
   case rest =>
    clear HC15
    try clear c1
    try clear c2
    try clear p2
    try clear c3
    try clear c5
    try clear c12
    try clear c12b0
    try clear c20
    try clear hcz19_0
    try clear hcz19_1
    try clear hfz19_0
    try clear hfz19_1
    try clear p2
    obtain ⟨kq,x33_14,rfl,HA,HJ14,BK449,HB⟩:=hcut
    cases kq with
    | zero => exact absurd HA.out (by simp [backfillref13_Exponent.j1])
    | succ kj14 =>
     have H:=HA.out;clear HA;simp only [backfillref13_Exponent.j1] at H;have HC21:=Am H;clear H
     go_upto_if 33 with (fail)
     go_cut [] (fun wc => ∃ (kq : Nat) (x450000_20 : Int) (x450001_20 : Int),Aside0 (backfillref13_Exponent.j2 kq a3 x450000_20 x450001_20 = some r) ∧ Aside0 (kq ≤ kj14) ∧ Aside0 (wc.heap[gb449]? = some (.cells #[.int .u64 x450000_20,.int .u64 x450001_20] 60 (0,0))) ∧ Aside0 (Below w.heap.size w wc))
     case first =>
      have H:=HC21.out;clear HC21
      by_cases c22 : x33_14 = true
      ·subst c22;have H1 : ((backfillref01_Of.f 1).bind fun bt450 => ((backfillref01_Add.f t445 t446 bt450.1 bt450.2).bind fun bt452 => (backfillref13_Exponent.j2 kj14 a3 bt452.1 bt452.2.1))) = some r:=by rw [if_pos rfl] at H;exact H
       clear H;have H:=H1;clear H1;obtain ⟨⟨t450,t451⟩,A23,H⟩:=bnd H;(try dsimp only at H);obtain ⟨⟨t452,t453,t454⟩,A24,H⟩:=bnd H;(try dsimp only at H);have H':=Am H;clear H
       try go_wp2
       replace BK449:=Am (blk_drew BK449.out);replace HB:=Am (below_drew1 HB.out);refine start_ (n:=7) (S:=fun w' => w'.cell? ⟨gb449,0,none⟩ = some (.int .u64 t445) ∧ w'.cell? ⟨gb449,1,none⟩ = some (.int .u64 t446)) (ds:=[6]) #[nn,nn,nn,nn,nn,nn,nn] (by kernel_rfl) rfl rfl (q2 BK449.out) (fun hHeld => ?_);generalize wc.drew = w25 at BK449 HB hHeld ⊢;refine tk_ 0 (some 35) (bm 7 1) (by kernel_rfl) hHeld ?_;refine one_ (i:=1) (N:=some 36) (bm 7 3) rfl rfl (by kernel_rfl) (by decide) (fun K hK => ?_);refine goes_ Tryz.func52 (by kernel_rfl) rfl #[.int .u64 1] (by rfl) rfl rfl aA ?_;with_reducible refine (backfillref01_Of.calls 1 t450 t451 _ A23.out).mono ?_
       rintro e w26 ⟨rfl,hb⟩;refine ⟨_,rfl,?_⟩;replace BK449:=kb_ (g:=gb449) hb;replace HB:=hb_ hb;(try clear hb);refine hK.out _ _ (q2 BK449.out) (fun hHeld => ?_);clear hK K;refine nm_ ?_;refine one_ (i:=2) (N:=some 37) (bm 7 7) rfl rfl (by kernel_rfl) (by decide) (fun K hK => ?_);refine goes_ Tryz.func54 (by kernel_rfl) rfl #[.agg #[.int .u64 t445,.int .u64 t446],.agg #[.int .u64 t450,.int .u64 t451]] (by rfl) rfl rfl aA ?_;with_reducible refine (backfillref01_Add.calls t445 t446 t450 t451 t452 t453 t454 _ A24.out).mono ?_
       rintro e w27 ⟨rfl,hb⟩;refine ⟨_,rfl,?_⟩;replace BK449:=kb_ (g:=gb449) hb;replace HB:=hb_ hb;(try clear hb);refine hK.out _ _ (q2 BK449.out) (fun hHeld => ?_);clear hK K;refine nm_ ?_;refine pu_ 3 (some 34) (bm 7 15) (by kernel_rfl) ?_;refine pu_ 4 (some 38) (bm 7 31) (by kernel_rfl) ?_;refine pu_ 5 (some 39) (bm 7 63) (by kernel_rfl) ?_;refine last_ (i:=6) (N:=none) (bm 7 127) rfl rfl (by kernel_rfl) (by decide) (fun K hK => ?_);have hs28 : w27.cell? ⟨gb449,0,none⟩ = some (.int .u64 t445):=(blk_cell BK449.out 0).trans rfl;have hfs28:=blk_frozen BK449.out 0;have hs29 : w27.cell? ⟨gb449,1,none⟩ = some (.int .u64 t446):=(blk_cell BK449.out 1).trans rfl;have hfs29:=blk_frozen BK449.out 1;refine skip_ (w1:=?_) (by rfl) rfl ?_ ?_
       rotate_left
       ·go_simp;rfl
       refine hK.out _ _ ?_;clear hK K;refine done_ (by kernel_rfl) ?_
       try go_wp2
       go_meet
       case rel => exact ⟨_,(t452),(t453),H',⟨by have:=HJ7.out;have:=HJ14.out;first | omega | exact Nat.le_refl _⟩,⟨by (with_reducible repeat (first | refine b1 ?_ _ | refine b2 ?_ | refine b3 ?_ _));refine blk_put (cs:=#[.int .u64 t452,.int .u64 t446]) ?_ 1 _ rfl;(with_reducible repeat (first | refine b1 ?_ _ | refine b2 ?_ | refine b3 ?_ _));refine blk_put (cs:=#[.int .u64 t445,.int .u64 t446]) ?_ 0 _ rfl;exact kA⟩,⟨bA⟩⟩
      ·replace c22:=Bool.eq_false_iff.mpr c22;subst c22;have H1 : (backfillref13_Exponent.j2 kj14 a3 t445 t446) = some r:=by rw [if_neg (show ¬ (false = true) by decide)] at H;exact H
       clear H;have H:=H1;clear H1;have H':=Am H;clear H;go_wp2
       go_meet
       case rel => exact ⟨_,(t445),(t446),H',⟨by have:=HJ7.out;have:=HJ14.out;first | omega | exact Nat.le_refl _⟩,⟨by exact kA⟩,⟨bA⟩⟩
     case rest =>
      clear HC21
      try clear c1
      try clear c2
      try clear p2
      try clear c3
      try clear c5
      try clear c12
      try clear c12b0
      try clear c20
      try clear c22
      try clear c24
      try clear hcz19_0
      try clear hcz19_1
      try clear hfz19_0
      try clear hfz19_1
      try clear p2
      obtain ⟨kq,x450000_20,x450001_20,HA,HJ20,BK449,HB⟩:=hcut
      cases kq with
      | zero => exact absurd HA.out (by simp [backfillref13_Exponent.j2])
      | succ kj20 =>
       have H:=HA.out;clear HA;simp only [backfillref13_Exponent.j2] at H;obtain ⟨⟨t455,t456,t457,t458⟩,A30,H⟩:=bnd H;(try dsimp only at H);have HC31:=Am H;clear H;obtain ⟨hcz32_0,hcz32_1,hfz32_0,hfz32_1⟩:=k2 BK449.out;go_upto_region 8 with (first | ((with_reducible refine gate_callee (f:=53) rfl ?_);refine goesL_ (some 42) rfl rfl Tryz.func53 (by kernel_rfl) rfl #[.agg #[.int .u64 x450000_20,.int .u64 x450001_20],.int .u64 2147483648] rfl aA ?_;(with_reducible refine (backfillref01_Div.calls kj20 x450000_20 x450001_20 2147483648 t455 t456 t457 t458 _ A30.out).mono ?_);rintro e w33 ⟨rfl,hb⟩;refine ⟨_,rfl,?_⟩;replace BK449:=kb_ (g:=gb449) hb;replace HB:=hb_ hb;(try clear hb)) | ((with_reducible refine gate_dst (N:=12) rfl ?_);refine bxA 12 #[.int .u64 0,.int .u64 0] 60 ?_;intro gb459 hg w34 hbox hb;have BK459:=Am (hbox);have GW459:=gW_ hg;have GE459:=gW_ hg;have NB449_459:=nA_ (g:=gb449) hg;have NB459_449:=nB_ (g:=gb449) hg;replace BK449:=kb_ (g:=gb449) hb;replace HB:=hb_ hb;clear hb hbox hg;have hnb35:=NB459_449.out;have hnc35:=NB449_459.out;obtain ⟨hcz36_0,hcz36_1,hfz36_0,hfz36_1⟩:=k2 BK459.out))
       (try simp only [Act.put,List.setIfInBounds_toArray,List.set_cons_zero,List.set_cons_succ])
       go_cut [50] (fun v50 wc => ∃ (kq : Nat) (x50_30 : Bool),v50 = .bool x50_30 ∧ Aside0 (backfillref13_Exponent.j3 kq x50_30 t455 t456 = some r) ∧ Aside0 (kq ≤ kj20) ∧ Aside0 (wc.heap[gb449]? = some (.cells #[.int .u64 x450000_20,.int .u64 x450001_20] 60 (0,0))) ∧ Aside0 (wc.heap[gb459]? = some (.cells #[.int .u64 t455,.int .u64 t456] 60 (0,0))) ∧ Aside0 (Below w.heap.size w wc))
       case first =>
        have H:=HC31.out;clear HC31
        by_cases c37 : a3 = true
        ·subst c37;have H1 : (backfillref13_Exponent.j3 kj20 (decide (t457 > 0)) t455 t456) = some r:=by rw [if_pos rfl] at H;exact H
         clear H;have H:=H1;clear H1;have H':=Am H;clear H;go_wp2
         go_meet
         case rel => exact ⟨_,(decide (t457 > 0)),(by first | rfl | (simp;done) | (simp [*];done)),H',⟨by have:=HJ7.out;have:=HJ14.out;have:=HJ20.out;first | omega | exact Nat.le_refl _⟩,⟨kF⟩,⟨by (with_reducible repeat (first | refine b1 ?_ _ | refine b2 ?_ | refine b3 ?_ _));refine blk_put (cs:=#[.int .u64 t455,.int .u64 0]) ?_ 1 _ rfl;(with_reducible repeat (first | refine b1 ?_ _ | refine b2 ?_ | refine b3 ?_ _));refine blk_put (cs:=#[.int .u64 0,.int .u64 0]) ?_ 0 _ rfl;exact kA⟩,⟨bA⟩⟩
        ·replace c37:=Bool.eq_false_iff.mpr c37;subst c37;have H1 : (backfillref13_Exponent.j3 kj20 false t455 t456) = some r:=by rw [if_neg (show ¬ (false = true) by decide)] at H;exact H
         clear H;have H:=H1;clear H1;have H':=Am H;clear H;go_wp2
         go_meet
         case rel => exact ⟨_,(false),(by first | rfl | (simp;done) | (simp [*];done)),H',⟨by have:=HJ7.out;have:=HJ14.out;have:=HJ20.out;first | omega | exact Nat.le_refl _⟩,⟨kF⟩,⟨by (with_reducible repeat (first | refine b1 ?_ _ | refine b2 ?_ | refine b3 ?_ _));refine blk_put (cs:=#[.int .u64 t455,.int .u64 0]) ?_ 1 _ rfl;(with_reducible repeat (first | refine b1 ?_ _ | refine b2 ?_ | refine b3 ?_ _));refine blk_put (cs:=#[.int .u64 0,.int .u64 0]) ?_ 0 _ rfl;exact kA⟩,⟨bA⟩⟩
       case rest =>
        clear HC31
        try clear c1
        try clear c2
        try clear p2
        try clear c3
        try clear c5
        try clear c12
        try clear c12b0
        try clear c20
        try clear c22
        try clear c24
        try clear c30
        try clear c35
        try clear c37
        try clear hcz19_0
        try clear hcz19_1
        try clear hcz32_0
        try clear hcz32_1
        try clear hcz36_0
        try clear hcz36_1
        try clear hfz19_0
        try clear hfz19_1
        try clear hfz32_0
        try clear hfz32_1
        try clear hfz36_0
        try clear hfz36_1
        try clear p2
        obtain ⟨kq,x50_30,rfl,HA,HJ30,BK449,BK459,HB⟩:=hcut
        cases kq with
        | zero => exact absurd HA.out (by simp [backfillref13_Exponent.j3])
        | succ kj30 =>
         have H:=HA.out;clear HA;simp only [backfillref13_Exponent.j3] at H
         by_cases c38 : x50_30 = true
         ·subst c38;have H1 : ((backfillref01_Of.f 1).bind fun bt460 => ((backfillref01_Add.f t455 t456 bt460.1 bt460.2).bind fun bt462 => (if bt462.1 > 0 then (some 18446744073709551615) else (some bt462.2.1)))) = some r:=by rw [if_pos rfl] at H;exact H
          clear H;have H:=H1;clear H1;obtain ⟨⟨t460,t461⟩,A39,H⟩:=bnd H;(try dsimp only at H);obtain ⟨⟨t462,t463,t464⟩,A40,H⟩:=bnd H;(try dsimp only at H)
          by_cases c41 : t462 > 0
          ·rw [if_pos c41] at H;have c41b0 : decide (0 < t462) = true:=dT c41;clear c41;obtain rfl:=oI H
           try go_wp2
           replace BK449:=Am (blk_drew BK449.out);replace BK459:=Am (blk_drew BK459.out);replace HB:=Am (below_drew1 HB.out);refine start_ (n:=7) (S:=fun w' => w'.cell? ⟨gb459,0,none⟩ = some (.int .u64 t455) ∧ w'.cell? ⟨gb459,1,none⟩ = some (.int .u64 t456)) (ds:=[6]) #[nn,nn,nn,nn,nn,nn,nn] (by kernel_rfl) rfl rfl (q2 BK459.out) (fun hHeld => ?_);generalize wc.drew = w42 at BK449 BK459 HB hHeld ⊢;refine tk_ 0 (some 52) (bm 7 1) (by kernel_rfl) hHeld ?_;refine one_ (i:=1) (N:=some 53) (bm 7 3) rfl rfl (by kernel_rfl) (by decide) (fun K hK => ?_);refine goes_ Tryz.func52 (by kernel_rfl) rfl #[.int .u64 1] (by rfl) rfl rfl aA ?_;with_reducible refine (backfillref01_Of.calls 1 t460 t461 _ A39.out).mono ?_
           rintro e w43 ⟨rfl,hb⟩;refine ⟨_,rfl,?_⟩;replace BK449:=kb_ (g:=gb449) hb;replace BK459:=kb_ (g:=gb459) hb;replace HB:=hb_ hb;(try clear hb);refine hK.out _ _ (q2 BK459.out) (fun hHeld => ?_);clear hK K;refine nm_ ?_;refine one_ (i:=2) (N:=some 54) (bm 7 7) rfl rfl (by kernel_rfl) (by decide) (fun K hK => ?_);refine goes_ Tryz.func54 (by kernel_rfl) rfl #[.agg #[.int .u64 t455,.int .u64 t456],.agg #[.int .u64 t460,.int .u64 t461]] (by rfl) rfl rfl aA ?_;with_reducible refine (backfillref01_Add.calls t455 t456 t460 t461 t462 t463 t464 _ A40.out).mono ?_
           rintro e w44 ⟨rfl,hb⟩;refine ⟨_,rfl,?_⟩;replace BK449:=kb_ (g:=gb449) hb;replace BK459:=kb_ (g:=gb459) hb;replace HB:=hb_ hb;(try clear hb);refine hK.out _ _ (q2 BK459.out) (fun hHeld => ?_);clear hK K;refine nm_ ?_;refine pu_ 3 (some 51) (bm 7 15) (by kernel_rfl) ?_;refine pu_ 4 (some 55) (bm 7 31) (by kernel_rfl) ?_;refine pu_ 5 (some 56) (bm 7 63) (by kernel_rfl) ?_;refine last_ (i:=6) (N:=none) (bm 7 127) rfl rfl (by kernel_rfl) (by decide) (fun K hK => ?_);have hs45 : w44.cell? ⟨gb459,0,none⟩ = some (.int .u64 t455):=(blk_cell BK459.out 0).trans rfl;have hfs45:=blk_frozen BK459.out 0;have hns45_0:=NB449_459.out;have hms45_0:=NB459_449.out;have hs46 : w44.cell? ⟨gb459,1,none⟩ = some (.int .u64 t456):=(blk_cell BK459.out 1).trans rfl;have hfs46:=blk_frozen BK459.out 1;have hns46_0:=NB449_459.out;have hms46_0:=NB459_449.out;refine skip_ (w1:=?_) (by rfl) rfl ?_ ?_
           rotate_left
           ·go_simp;rfl
           refine hK.out _ _ ?_;clear hK K;refine done_ (by kernel_rfl) ?_;have hnb47:=NB459_449.out;have hnc47:=NB449_459.out;obtain ⟨hcz48_0,hcz48_1,hfz48_0,hfz48_1⟩:=k2 BK459.out
           try go_wp2
           go_ret;exact eA
          ·rw [if_neg c41] at H;have c41b0 : decide (0 < t462) = false:=dF c41;clear c41;obtain rfl:=oI H
           try go_wp2
           replace BK449:=Am (blk_drew BK449.out);replace BK459:=Am (blk_drew BK459.out);replace HB:=Am (below_drew1 HB.out);refine start_ (n:=7) (S:=fun w' => w'.cell? ⟨gb459,0,none⟩ = some (.int .u64 t455) ∧ w'.cell? ⟨gb459,1,none⟩ = some (.int .u64 t456)) (ds:=[6]) #[nn,nn,nn,nn,nn,nn,nn] (by kernel_rfl) rfl rfl (q2 BK459.out) (fun hHeld => ?_);generalize wc.drew = w49 at BK449 BK459 HB hHeld ⊢;refine tk_ 0 (some 52) (bm 7 1) (by kernel_rfl) hHeld ?_;refine one_ (i:=1) (N:=some 53) (bm 7 3) rfl rfl (by kernel_rfl) (by decide) (fun K hK => ?_);refine goes_ Tryz.func52 (by kernel_rfl) rfl #[.int .u64 1] (by rfl) rfl rfl aA ?_;with_reducible refine (backfillref01_Of.calls 1 t460 t461 _ A39.out).mono ?_
           rintro e w50 ⟨rfl,hb⟩;refine ⟨_,rfl,?_⟩;replace BK449:=kb_ (g:=gb449) hb;replace BK459:=kb_ (g:=gb459) hb;replace HB:=hb_ hb;(try clear hb);refine hK.out _ _ (q2 BK459.out) (fun hHeld => ?_);clear hK K;refine nm_ ?_;refine one_ (i:=2) (N:=some 54) (bm 7 7) rfl rfl (by kernel_rfl) (by decide) (fun K hK => ?_);refine goes_ Tryz.func54 (by kernel_rfl) rfl #[.agg #[.int .u64 t455,.int .u64 t456],.agg #[.int .u64 t460,.int .u64 t461]] (by rfl) rfl rfl aA ?_;with_reducible refine (backfillref01_Add.calls t455 t456 t460 t461 t462 t463 t464 _ A40.out).mono ?_
           rintro e w51 ⟨rfl,hb⟩;refine ⟨_,rfl,?_⟩;replace BK449:=kb_ (g:=gb449) hb;replace BK459:=kb_ (g:=gb459) hb;replace HB:=hb_ hb;(try clear hb);refine hK.out _ _ (q2 BK459.out) (fun hHeld => ?_);clear hK K;refine nm_ ?_;refine pu_ 3 (some 51) (bm 7 15) (by kernel_rfl) ?_;refine pu_ 4 (some 55) (bm 7 31) (by kernel_rfl) ?_;refine pu_ 5 (some 56) (bm 7 63) (by kernel_rfl) ?_;refine last_ (i:=6) (N:=none) (bm 7 127) rfl rfl (by kernel_rfl) (by decide) (fun K hK => ?_);have hs52 : w51.cell? ⟨gb459,0,none⟩ = some (.int .u64 t455):=(blk_cell BK459.out 0).trans rfl;have hfs52:=blk_frozen BK459.out 0;have hns52_0:=NB449_459.out;have hms52_0:=NB459_449.out;have hs53 : w51.cell? ⟨gb459,1,none⟩ = some (.int .u64 t456):=(blk_cell BK459.out 1).trans rfl;have hfs53:=blk_frozen BK459.out 1;have hns53_0:=NB449_459.out;have hms53_0:=NB459_449.out;refine skip_ (w1:=?_) (by rfl) rfl ?_ ?_
           rotate_left
           ·go_simp;rfl
           refine hK.out _ _ ?_;clear hK K;refine done_ (by kernel_rfl) ?_;have hnb54:=NB459_449.out;have hnc54:=NB449_459.out;obtain ⟨hcz55_0,hcz55_1,hfz55_0,hfz55_1⟩:=k2 BK459.out
           try go_wp2
           go_ret;exact eA
         ·replace c38:=Bool.eq_false_iff.mpr c38;subst c38;have H1 : (if t455 > 0 then (some 18446744073709551615) else (some t456)) = some r:=by rw [if_neg (show ¬ (false = true) by decide)] at H;exact H
          clear H;have H:=H1;clear H1
          by_cases c56 : t455 > 0
          ·rw [if_pos c56] at H;have c56b0 : decide (0 < t455) = true:=dT c56;clear c56;obtain rfl:=oI H;have hnb57:=NB459_449.out;have hnc57:=NB449_459.out;obtain ⟨hcz58_0,hcz58_1,hfz58_0,hfz58_1⟩:=k2 BK459.out;go_wp2;go_ret;exact eA
          ·rw [if_neg c56] at H;have c56b0 : decide (0 < t455) = false:=dF c56;clear c56;obtain rfl:=oI H;have hnb59:=NB459_449.out;have hnc59:=NB449_459.out;obtain ⟨hcz60_0,hcz60_1,hfz60_0,hfz60_1⟩:=k2 BK459.out;go_wp2;go_ret;exact eA



def backfillref14_part.f (a0 : Int) (a1 : Int) : Option (Int):=some (wrap64 ((IntKind.u64.wrap ((IntKind.u64.wrap ((IntKind.u64.wrap (a0)) * (a1 / 4294967296))) + ((IntKind.u64.wrap ((IntKind.u64.wrap (a0)) * (Go.bits .and .u64 a1 4294967295))) / 4294967296))) / 2147483648))
theorem backfillref14_part.calls (a0 : Int) (a1 : Int) (r : Int) (w : World) (h : backfillref14_part.f a0 a1 = some r) :
  Calls Tryz.prog 43 #[.int .i64 a0,.int .u64 a1] w fun e w' => e = .returned (.int .i64 r) ∧ Drawn0 w w':=by
 have H : (some (wrap64 ((IntKind.u64.wrap ((IntKind.u64.wrap ((IntKind.u64.wrap (a0)) * (a1 / 4294967296))) + ((IntKind.u64.wrap ((IntKind.u64.wrap (a0)) * (Go.bits .and .u64 a1 4294967295))) / 4294967296))) / 2147483648))) = some r:=h;clear h;obtain rfl:=oI H;go_enter Tryz.func43,Tryz.ntmps43;go_wp2;go_ret;exact ⟨by first | rfl | (simp;done) | (simp [*];done),by repeat (first | exact Drawn0.refl _ | apply Drawn0.step)⟩

def backfillref07_Half.l0 : Nat → Int → Int → List Int → Int → Int → Option (Int)
 | 0,_,_,_,_,_ => none
 | k + 1,x0,x3,x4,x5,x6 => if x6 ≤ 32 then (if 0 ≤ (wrap64 (32 - x6)) then (if (Go.bits .and .u64 (shr .u64 x0 (wrap64 (32 - x6))) 1) = 1 then (if 0 ≤ (wrap64 (x6 - 1)) then (if (wrap64 (x6 - 1)) < (x4.length : Int) then ((backfillref01_Mul.f x5 (rd x4 (wrap64 (x6 - 1)))).bind fun bt436 => (backfillref07_Half.l0 k x0 x3 x4 bt436.1 (wrap64 (x6 + 1)))) else (none)) else (none)) else (backfillref07_Half.l0 k x0 x3 x4 x5 (wrap64 (x6 + 1)))) else (none)) else (if 0 ≤ x3 then (some (shr .u64 x5 x3)) else (none))
def backfillref07_Half.f (k : Nat) (a0 : Int) : Option (Int):=if (a0 / 4294967296) ≥ 63 then (some 0) else ((backfillref07_rungs.f).bind fun t432 => (backfillref07_Half.l0 k a0 (a0 / 4294967296) t432 9223372036854775808 1))
theorem backfillref07_Half.mono_l : ∀ k,(∀ y0 y1 y2 y3 y4,LeO (backfillref07_Half.l0 k y0 y1 y2 y3 y4) (backfillref07_Half.l0 (k + 1) y0 y1 y2 y3 y4))
 | 0 => fun _ _ _ _ _ r h => by simp [backfillref07_Half.l0] at h
 | k + 1 => by
  have ih0:=backfillref07_Half.mono_l k
  ·intro y0 y1 y2 y3 y4;unfold backfillref07_Half.l0
   repeat' first
   | (with_reducible exact ih0 _ _ _ _ _)
   | (with_reducible exact LeO.refl _)
   | (with_reducible exact LeO.none _)
   | (with_reducible refine LeO.ite ?_ ?_)
   | (with_reducible refine LeO.bind ?_ (fun _ => ?_))
   | exact ih0 _ _ _ _ _
   | exact LeO.none _
   | refine LeO.ite ?_ ?_
   | refine LeO.bind ?_ (fun _ => ?_)
theorem backfillref07_Half.mono : ∀ a0 k,LeO (backfillref07_Half.f k a0) (backfillref07_Half.f (k + 1) a0):=by
 intro a0 k;have ih0:=backfillref07_Half.mono_l k;unfold backfillref07_Half.f
 repeat' first
   | (with_reducible exact ih0 _ _ _ _ _)
   | (with_reducible exact LeO.refl _)
   | (with_reducible exact LeO.none _)
   | (with_reducible refine LeO.ite ?_ ?_)
   | (with_reducible refine LeO.bind ?_ (fun _ => ?_))
   | exact ih0 _ _ _ _ _
   | exact LeO.none _
   | refine LeO.ite ?_ ?_
   | refine LeO.bind ?_ (fun _ => ?_)
theorem backfillref07_Half.calls (k : Nat) (a0 : Int) (r : Int) (w : World) (h : backfillref07_Half.f k a0 = some r) :
  Calls Tryz.prog 23 #[.int .u64 a0] w fun e w' => e = .returned (.int .u64 r) ∧ Below w.heap.size w w':=by
 have hfd60_0 : ∀ (x0 : Int) (x1 : Int) (W_ : World),(Instr.field 60 (.agg #[(.int .u64 x0),(.int .u64 x1)]) 0).run Tryz.prog W_ = .ok ((.int .u64 x0)) W_:=by intros;kernel_rfl
 have HB:=Am (Below.refl w.heap.size w);have H : (if (a0 / 4294967296) ≥ 63 then (some 0) else ((backfillref07_rungs.f).bind fun t432 => (backfillref07_Half.l0 k a0 (a0 / 4294967296) t432 9223372036854775808 1))) = some r:=h;clear h
 by_cases c2 : (a0 / 4294967296) ≥ 63
 ·rw [if_pos c2] at H;have c2b0 : decide (63 ≤ (a0 / 4294967296)) = true:=dT c2;clear c2;obtain rfl:=oI H;go_enter Tryz.func23,Tryz.ntmps23;go_wp2;go_ret;exact eA
 ·rw [if_neg c2] at H;have c2b0 : decide (63 ≤ (a0 / 4294967296)) = false:=dF c2;clear c2;obtain ⟨t432,A3,H⟩:=bnd H;(try dsimp only at H);have H':=Am H;clear H;go_enter Tryz.func23,Tryz.ntmps23;go_wp2_with (first | ((with_reducible refine gate_callee (f:=50) rfl ?_);refine goesL_ (some 11) rfl rfl Tryz.func50 (by kernel_rfl) rfl #[] rfl aA ?_;(with_reducible refine (backfillref07_rungs.calls  t432 _ A3.out).mono ?_);rintro e w4 ⟨v433,rfl,ho0,hb⟩;refine ⟨_,rfl,?_⟩;have HO434:=Am (Kd.R_lower ho0 (below_size bA));replace HB:=hb_ hb;(try clear hb);(try clear ho0)))
  go_loopg [5,6] k (fun kq v5 v6 w' => ∃ (x5_1 : Int) (x6_1 : Int),v5 = .int .u64 x5_1 ∧ v6 = .int .i64 x6_1 ∧ Aside0 (backfillref07_Half.l0 kq a0 (a0 / 4294967296) t432 x5_1 x6_1 = some r) ∧ Aside0 (kq ≤ k) ∧ Aside0 (Kd.R (Kd.int .u64) 29 w' w.heap.size (fun _ => True) v433 t432) ∧ Aside0 (Below w.heap.size w w'))
  case atStart => exact ⟨(9223372036854775808),(1),(by first | rfl | (simp;done) | (simp [*];done)),(by first | rfl | (simp;done) | (simp [*];done)),H',⟨Nat.le_refl _⟩,⟨by (with_reducible repeat (first | apply Kd.R_alloc | apply Kd.R_drewN | apply Kd.R_drew));exact HO434.out⟩,⟨bA⟩⟩
  case round =>
   clear H'
   try clear c2
   try clear c2b0
   try clear p2
   obtain ⟨x5_1,x6_1,rfl,rfl,HA,HK1,HO_4,HB⟩:=hrel
   cases gk with
   | zero => exact absurd HA.out (by simp [backfillref07_Half.l0])
   | succ k1 =>
    have H:=HA.out;clear HA;simp only [backfillref07_Half.l0] at H
    by_cases c5 : x6_1 ≤ 32
    ·rw [if_pos c5] at H;have c5b0 : decide (x6_1 ≤ 32) = true:=dT c5;clear c5;obtain ⟨ji6,hji6⟩ : ∃ j_ : Int,(wrap64 (32 - x6_1)) = j_:=⟨_,rfl⟩;replace H : (if 0 ≤ (ji6) then (if (Go.bits .and .u64 (shr .u64 a0 (ji6)) 1) = 1 then (if 0 ≤ (wrap64 (x6_1 - 1)) then (if (wrap64 (x6_1 - 1)) < (t432.length : Int) then ((backfillref01_Mul.f x5_1 (rd t432 (wrap64 (x6_1 - 1)))).bind fun bt436 => (backfillref07_Half.l0 k1 a0 (a0 / 4294967296) t432 bt436.1 (wrap64 (x6_1 + 1)))) else (none)) else (none)) else (backfillref07_Half.l0 k1 a0 (a0 / 4294967296) t432 x5_1 (wrap64 (x6_1 + 1)))) else (none)) = some r:=by first | (rw [hji6] at H;exact H) | (simp only [hji6] at H ⊢;exact H)
     have hji6w : (IntKind.i64.wrap (32 - x6_1)) = ji6:=(i64_w _).trans hji6
     by_cases c7 : 0 ≤ (ji6)
     ·rw [if_pos c7] at H;have c7b0:=eq_true c7;have c7b1 : decide (0 ≤ (ji6)) = true:=dT c7;clear c7;obtain ⟨ji8,hji8⟩ : ∃ j_ : Int,(shr .u64 a0 (ji6)) = j_:=⟨_,rfl⟩;replace H : (if (Go.bits .and .u64 (ji8) 1) = 1 then (if 0 ≤ (wrap64 (x6_1 - 1)) then (if (wrap64 (x6_1 - 1)) < (t432.length : Int) then ((backfillref01_Mul.f x5_1 (rd t432 (wrap64 (x6_1 - 1)))).bind fun bt436 => (backfillref07_Half.l0 k1 a0 (a0 / 4294967296) t432 bt436.1 (wrap64 (x6_1 + 1)))) else (none)) else (none)) else (backfillref07_Half.l0 k1 a0 (a0 / 4294967296) t432 x5_1 (wrap64 (x6_1 + 1)))) = some r:=by first | (rw [hji8] at H;exact H) | (simp only [hji8] at H ⊢;exact H)
      have hji8_ : (a0 / 2 ^ min (ji6).toNat 64) = ji8:=hji8;have hji8z : (ji6) ≤ 64 → (a0 / 2 ^ (ji6).toNat) = ji8:=shr_small hji8
      by_cases c9 : (Go.bits .and .u64 (ji8) 1) = 1
      ·rw [if_pos c9] at H;have c9b0 : ((Go.bits .and .u64 (ji8) 1) == 1) = true:=beq_iff_eq.mpr c9;have c9b1 : ((Go.bits .and .u64 (ji8) 1) != 1) = false:=bne_eq_false_iff_eq.mpr c9;clear c9;obtain ⟨ji10,hji10⟩ : ∃ j_ : Int,(wrap64 (x6_1 - 1)) = j_:=⟨_,rfl⟩;replace H : (if 0 ≤ (ji10) then (if (ji10) < (t432.length : Int) then ((backfillref01_Mul.f x5_1 (rd t432 (ji10))).bind fun bt436 => (backfillref07_Half.l0 k1 a0 (a0 / 4294967296) t432 bt436.1 (wrap64 (x6_1 + 1)))) else (none)) else (none)) = some r:=by first | (rw [hji10] at H;exact H) | (simp only [hji10] at H ⊢;exact H)
       have hji10w : (IntKind.i64.wrap (x6_1 - 1)) = ji10:=(i64_w _).trans hji10
       by_cases c11 : 0 ≤ (ji10)
       ·rw [if_pos c11] at H;have c11b0 : decide (0 ≤ (ji10)) = true:=dT c11;clear c11
        by_cases c12 : (ji10) < (t432.length : Int)
        ·rw [if_pos c12] at H;have c12b0 : decide ((ji10) < (t432.length : Int)) = true:=dT c12;clear c12;obtain ⟨⟨t436,t437⟩,A13,H⟩:=bnd H;(try dsimp only at H);have H':=Am H;clear H;obtain ⟨Ao14,co14,eo14⟩:=Kd.R_slice HO_4.out;subst eo14;have p435 : 0 ≤ ((ji10) : Int):=of_decide_eq_true (by first | (with_reducible assumption) | assumption);have q435 : (ji10) < (t432.length : Int):=of_decide_eq_true (by first | (with_reducible assumption) | assumption);obtain ⟨ad435,e435,hx435_0⟩:=Kd.at_int (Kd.R_reads' HO_4.out).2.2 (ji10) p435 q435
         cases e435;replace p435:=eq_true p435;replace q435:=eq_true q435;go_wp2_with (first | ((with_reducible refine gate_callee (f:=51) rfl ?_);refine goesL_ (some 28) rfl rfl Tryz.func51 (by kernel_rfl) rfl #[.int .u64 x5_1,.int .u64 (rd t432 (ji10))] rfl (by (try simp only [List.map_toArray,List.map_cons,List.map_nil]);first | done | (simp only [hji10];rfl) | rfl | (simp only [List.length_drop,List.length_take];rfl)) ?_;(with_reducible refine (backfillref01_Mul.calls x5_1 (rd t432 (ji10)) t436 t437 _ A13.out).mono ?_);rintro e w15 ⟨rfl,hb⟩;refine ⟨_,rfl,?_⟩;replace HO_4:=Am (Kd.R_below (by (with_reducible repeat (first | apply Kd.R_alloc | apply Kd.R_drewN | apply Kd.R_drew));exact HO_4.out) hb);replace HB:=hb_ hb;(try clear hb)))
         go_roundg k1
         case measure => have:=HK1.out;omega
         case rel => exact ⟨(t436),(wrap64 (x6_1 + 1)),(by first | rfl | (simp;done) | (simp [*];done)),(by first | rfl | (simp;done) | (simp [*];done)),H',⟨by have:=HK1.out;omega⟩,⟨by (with_reducible repeat (first | apply Kd.R_alloc | apply Kd.R_drewN | apply Kd.R_drew));exact HO_4.out⟩,⟨bA⟩⟩
        ·rw [if_neg c12] at H;exact absurd H (by simp)
       ·rw [if_neg c11] at H;exact absurd H (by simp)
      ·rw [if_neg c9] at H;have c9b0 : ((Go.bits .and .u64 (ji8) 1) == 1) = false:=beq_eq_false_iff_ne.mpr c9;have c9b1 : ((Go.bits .and .u64 (ji8) 1) != 1) = true:=bne_iff_ne.mpr c9;have H':=Am H;clear H;go_wp2;go_roundg k1
       case measure => have:=HK1.out;omega
       case rel => exact ⟨(x5_1),(wrap64 (x6_1 + 1)),(by first | rfl | (simp;done) | (simp [*];done)),(by first | rfl | (simp;done) | (simp [*];done)),H',⟨by have:=HK1.out;omega⟩,⟨by (with_reducible repeat (first | apply Kd.R_alloc | apply Kd.R_drewN | apply Kd.R_drew));exact HO_4.out⟩,⟨bA⟩⟩
     ·rw [if_neg c7] at H;exact absurd H (by simp)
    ·rw [if_neg c5] at H;have c5b0 : decide (x6_1 ≤ 32) = false:=dF c5;clear c5;obtain ⟨ji16,hji16⟩ : ∃ j_ : Int,(a0 / 4294967296) = j_:=⟨_,rfl⟩;replace H : (if 0 ≤ (ji16) then (some (shr .u64 x5_1 (ji16))) else (none)) = some r:=by first | (rw [hji16] at H;exact H) | (simp only [hji16] at H ⊢;exact H)
     (try rw [hji16] at c2b0)
     by_cases c17 : 0 ≤ (ji16)
     ·rw [if_pos c17] at H;have c17b0:=eq_true c17;have c17b1 : decide (0 ≤ (ji16)) = true:=dT c17;clear c17;obtain ⟨ji18,hji18⟩ : ∃ j_ : Int,(shr .u64 x5_1 (ji16)) = j_:=⟨_,rfl⟩;replace H : (some ji18) = some r:=by first | (rw [hji18] at H;exact H) | (simp only [hji18] at H ⊢;exact H)
      have hji18_ : (x5_1 / 2 ^ min (ji16).toNat 64) = ji18:=hji18;have hji18z : (ji16) ≤ 64 → (x5_1 / 2 ^ (ji16).toNat) = ji18:=shr_small hji18;obtain rfl:=oI H;go_wp2;go_ret;exact ⟨by first | rfl | (simp [errW_none,errW_some] <;> rfl) | (simp only [← hji16,← hji18];first | rfl | (simp [errW_none,errW_some] <;> rfl)) | (simp [*,errW_none,errW_some] <;> rfl),bA⟩
     ·rw [if_neg c17] at H;exact absurd H (by simp)

end Go.Proofs.YtodibpddlibneaaGreatDoor.GSH
namespace Go.Proofs.YtodibpddlibneaaGreatDoor.Q
open Go.RowKit GSH YtodibpddlibneaaGreatDoorW.PrintWords YtodibpddlibneaaGreatDoorW.PrintLast YtodibpddlibneaaGreatDoorW.PrintMore
theorem rshl {h l : Int} (hh : U h) (hl : U l) (n : Nat) (h0 : 0 < n) (h1 : n < 64) : backfillref01_Shl.f h l (n : Int) = some (shlV h l n):=by
  unfold backfillref01_Shl.f shlV;rw [if_neg (by omega),if_neg (by omega),if_neg (by omega),if_pos (by omega),wrap64_in (by omega) (by omega),if_pos (by omega)];rw [show (64 - (n : Int)) = ((64 - n : Nat) : Int) by omega,shl_at n (by omega),shr_at (64 - n) (by omega),shl_at n (by omega)];have d:=shl_sum hh hl n (by omega);rw [w64_in d.1 d.2]
theorem shl1V {h l : Int} (hh : U h) (hl : U l) : backfillref01_Shl.f h l 1 = some (2 * V h l % 340282366920938463463374607431768211456 / 18446744073709551616,2 * V h l % 18446744073709551616):=by
  have:=rshl hh hl 1 (by decide) (by decide);rw [show ((1 : Nat) : Int) = 1 from rfl] at this;rw [this];unfold shlV V;obtain ⟨a,b⟩:=hh;obtain ⟨c,d⟩:=hl
  congr 2 <;> simp <;> omega
/-- Long division by bits: what is left of the digits,the quotient and the rest so far. -/
def divS (b : Int) : Nat → Int → Int → Int → Int × Int
  | 0,rest,_,q => (q,rest)
  | d + 1,rest,x,q => if 2 * rest + x / 170141183460469231731687303715884105728 ≥ b then divS b d (2 * rest + x / 170141183460469231731687303715884105728 - b) (2 * x % 340282366920938463463374607431768211456) (2 * q + 1)
      else divS b d (2 * rest + x / 170141183460469231731687303715884105728) (2 * x % 340282366920938463463374607431768211456) (2 * q)
theorem divS_eq {b : Int} (hb : 0 < b) (d : Nat) : ∀ (rest x q A : Int),0 ≤ rest → rest < b → 0 ≤ x → x < 340282366920938463463374607431768211456 → x * 2 ^ d = A * 340282366920938463463374607431768211456 →
    divS b d rest x q = (q * 2 ^ d + (rest * 2 ^ d + A) / b,(rest * 2 ^ d + A) % b):=by
  induction d with
  | zero =>
    intro rest x q A h0 h1 h2 h3 h4;have hA : A = 0:=by omega
    subst hA;simp only [divS];rw [show rest * 2 ^ 0 + 0 = rest by omega,Int.ediv_eq_zero_of_lt h0 h1,Int.emod_eq_of_lt h0 h1]
    congr 1
    omega
  | succ d ih =>
    intro rest x q A h0 h1 h2 h3 h4;have hp : (2 : Int) ^ (d + 1) = 2 * 2 ^ d:=by rw [Int.pow_succ,Int.mul_comm]
    rw [hp] at h4 ⊢;simp only [divS];have hx : ∃ t X,(t = 0 ∨ t = 1) ∧ x = t * 170141183460469231731687303715884105728 + X ∧ 0 ≤ X ∧ X < 170141183460469231731687303715884105728:=⟨x / 170141183460469231731687303715884105728,x % 170141183460469231731687303715884105728,by omega,by omega,by omega,by omega⟩;obtain ⟨t,X,ht,rfl,hX0,hX1⟩:=hx;generalize hT : (2 : Int) ^ d = T at *;have e1 : (t * 170141183460469231731687303715884105728 + X) / 170141183460469231731687303715884105728 = t:=by omega
    have e2 : 2 * (t * 170141183460469231731687303715884105728 + X) % 340282366920938463463374607431768211456 = 2 * X:=by omega
    rw [e1,e2];have h5 : (2 * X) * T = (A - t * T) * 340282366920938463463374607431768211456:=by
      have : (t * 170141183460469231731687303715884105728 + X) * (2 * T) = t * T * 340282366920938463463374607431768211456 + 2 * X * T:=by
        rw [Int.add_mul]
        congr 1
        · rcases ht with rfl | rfl <;> omega
        · rw [Int.mul_left_comm,Int.mul_assoc]
      rw [this] at h4;rw [Int.sub_mul];omega
    have r2 : (2 * rest + t) * T = 2 * (rest * T) + t * T:=by rw [Int.add_mul,Int.mul_assoc]
    have r3 : rest * (2 * T) = 2 * (rest * T):=by rw [Int.mul_left_comm]
    by_cases c : 2 * rest + t ≥ b
    · rw [if_pos c,ih _ _ _ (A - t * T) (by omega) (by omega) (by omega) (by omega) h5,Int.sub_mul,r2,r3]
      have e3 : 2 * (rest * T) + A = (2 * (rest * T) + t * T - b * T + (A - t * T)) + b * T:=by omega
      rw [e3,Int.add_mul_ediv_left _ _ (by omega),Int.add_mul_emod_self_left]
      congr 1
      rw [Int.add_mul,Int.mul_assoc,Int.mul_left_comm q 2 T];omega
    · rw [if_neg c,ih _ _ _ (A - t * T) (by omega) (by omega) (by omega) (by omega) h5,r2,r3]
      have e3 : 2 * (rest * T) + A = 2 * (rest * T) + t * T + (A - t * T):=by omega
      rw [e3,Int.mul_assoc,Int.mul_left_comm q 2 T]
theorem rdiv_l0 {b : Int} (hb : U b) (hb0 : 0 < b) (d : Nat) : ∀ (k : Nat) (i rest ah al qh ql : Int),d < k → d ≤ 128 → i = 128 - (d : Int) → U ah → U al → U qh → U ql → 0 ≤ rest → rest < b → (V qh ql + 1) * 2 ^ d ≤ 340282366920938463463374607431768211456 →
    backfillref01_Div.l0 k b rest i ah al qh ql = some ((divS b d rest (V ah al) (V qh ql)).1 / 18446744073709551616,(divS b d rest (V ah al) (V qh ql)).1 % 18446744073709551616,(divS b d rest (V ah al) (V qh ql)).2,true):=by
  induction d with
  | zero =>
    intro k i rest ah al qh ql hk _ hi h1 h2 h3 h4 h5 h6 h7;obtain ⟨k,rfl⟩ : ∃ m,k = m + 1:=⟨k - 1,by omega⟩;simp only [backfillref01_Div.l0,divS];rw [if_neg (by omega),V_hi h4,V_lo h4]
  | succ d ih =>
    intro k i rest ah al qh ql hk hd hi h1 h2 h3 h4 h5 h6 h7;obtain ⟨k,rfl⟩ : ∃ m,k = m + 1:=⟨k - 1,by omega⟩;simp only [backfillref01_Div.l0];rw [if_pos (by omega),shl1V h1 h2,shl1V h3 h4];simp only [Option.bind_some];have hT : (0 : Int) < 2 ^ d:=pow_pos_ d;have hp : (2 : Int) ^ (d + 1) = 2 * 2 ^ d:=by rw [Int.pow_succ,Int.mul_comm]
    rw [hp] at h7;obtain ⟨h1a,h1b⟩:=h1;obtain ⟨h2a,h2b⟩:=h2;obtain ⟨h3a,h3b⟩:=h3;obtain ⟨h4a,h4b⟩:=h4;obtain ⟨hba,hbb⟩:=hb;have hQ : 2 * V qh ql + 2 ≤ 340282366920938463463374607431768211456:=by
      have : (V qh ql + 1) * (2 * 1) ≤ (V qh ql + 1) * (2 * 2 ^ d):=Int.mul_le_mul_of_nonneg_left (by omega) (by unfold V;omega);omega
    have hbit : V ah al / 170141183460469231731687303715884105728 = ah / 9223372036854775808:=by unfold V;omega
    have hA : V (2 * V ah al % 340282366920938463463374607431768211456 / 18446744073709551616) (2 * V ah al % 18446744073709551616) = 2 * V ah al % 340282366920938463463374607431768211456:=by unfold V;omega
    have hQ0 : V (2 * V qh ql % 340282366920938463463374607431768211456 / 18446744073709551616) (2 * V qh ql % 18446744073709551616) = 2 * V qh ql:=by unfold V at hQ ⊢;omega
    have hQ1 : V (2 * V qh ql % 340282366920938463463374607431768211456 / 18446744073709551616) (IntKind.u64.wrap (2 * V qh ql % 18446744073709551616 + 1)) = 2 * V qh ql + 1:=by rw [w64];unfold V at hQ ⊢;omega
    have m0 : (2 * V qh ql + 1) * 2 ^ d ≤ 340282366920938463463374607431768211456:=by
      have : (2 * V qh ql + 1) * 2 ^ d ≤ (V qh ql + 1) * (2 * 2 ^ d):=by
        rw [Int.mul_left_comm,← Int.mul_assoc];exact Int.mul_le_mul_of_nonneg_right (by omega) (by omega)
      omega
    have m1 : (2 * V qh ql + 1 + 1) * 2 ^ d ≤ 340282366920938463463374607431768211456:=by
      have : (2 * V qh ql + 1 + 1) * 2 ^ d ≤ (V qh ql + 1) * (2 * 2 ^ d):=by
        rw [Int.mul_left_comm,← Int.mul_assoc];exact Int.mul_le_mul_of_nonneg_right (by omega) (by omega)
      omega
    have v0 : 0 ≤ V ah al ∧ V ah al < 340282366920938463463374607431768211456:=by unfold V;omega
    have v1 : 0 ≤ V qh ql ∧ V qh ql < 340282366920938463463374607431768211456:=by unfold V;omega
    have wi : wrap64 (i + 1) = i + 1:=wrap64_in (by omega) (by omega);have yes : (IntKind.u64.wrap ((IntKind.u64.wrap ((IntKind.u64.wrap (rest * 2)) + (ah / 9223372036854775808))) - b)) = (2 * rest + ah / 9223372036854775808 - b) % 18446744073709551616:=by
      simp only [w64];omega
    simp only [divS];rw [hbit,wi,yes]
    by_cases c : rest / 9223372036854775808 = 1
    · rw [if_pos c,if_pos (by omega)]
      rw [show (2 * rest + ah / 9223372036854775808 - b) % 18446744073709551616 = 2 * rest + ah / 9223372036854775808 - b by omega];rw [ih k (i + 1) _ _ _ _ _ (by omega) (by omega) (by omega) ⟨by omega,by omega⟩ (umod _) ⟨by omega,by omega⟩ ⟨by rw [w64];omega,by rw [w64];omega⟩ (by omega) (by omega) (by rw [hQ1];exact m1),hA,hQ1]
    · rw [if_neg c]
      have w1 : IntKind.u64.wrap ((IntKind.u64.wrap (rest * 2)) + (ah / 9223372036854775808)) = 2 * rest + ah / 9223372036854775808:=by simp only [w64];omega
      rw [w1]
      by_cases c2 : 2 * rest + ah / 9223372036854775808 ≥ b
      · rw [if_pos c2,if_pos c2]
        rw [show (2 * rest + ah / 9223372036854775808 - b) % 18446744073709551616 = 2 * rest + ah / 9223372036854775808 - b by omega];rw [ih k (i + 1) _ _ _ _ _ (by omega) (by omega) (by omega) ⟨by omega,by omega⟩ (umod _) ⟨by omega,by omega⟩ ⟨by rw [w64];omega,by rw [w64];omega⟩ (by omega) (by omega) (by rw [hQ1];exact m1),hA,hQ1]
      · rw [if_neg c2,if_neg c2]
        rw [ih k (i + 1) _ _ _ _ _ (by omega) (by omega) (by omega) ⟨by omega,by omega⟩ (umod _) ⟨by omega,by omega⟩ (umod _) (by omega) (by omega) (by rw [hQ0];exact m0),hA,hQ0]
theorem rdiv {ah al b : Int} (k : Nat) (hk : 129 ≤ k) (h1 : U ah) (h2 : U al) (hb : U b) (hb0 : b ≠ 0) :
    backfillref01_Div.f k ah al b = some (V ah al / b / 18446744073709551616,V ah al / b % 18446744073709551616,V ah al % b,true):=by
  unfold backfillref01_Div.f;have hb1 : 0 < b:=by have:=hb.1;omega
  rw [if_neg hb0,rdiv_l0 hb hb1 128 k 0 0 ah al 0 0 (by omega) (by omega) (by omega) h1 h2 ⟨by omega,by omega⟩ ⟨by omega,by omega⟩ (by omega) (by omega) (by decide)];have v0 : 0 ≤ V ah al ∧ V ah al < 340282366920938463463374607431768211456:=by
    obtain ⟨h1a,h1b⟩:=h1;obtain ⟨h2a,h2b⟩:=h2;unfold V;omega
  rw [divS_eq hb1 128 0 (V ah al) (V 0 0) (V ah al) (by omega) hb1 v0.1 v0.2 (by rfl)];simp [V]
theorem rdiv0 {ah al : Int} (k : Nat) : backfillref01_Div.f k ah al 0 = some (0,0,0,false):=by
  unfold backfillref01_Div.f;rw [if_pos rfl]
theorem rrungs : backfillref07_rungs.f = some rungsL:=rfl
theorem shr_bit (E d : Nat) (hE : E < 18446744073709551616) (hd : d < 64) : Go.bits .and .u64 (shr .u64 (E : Int) (d : Int)) 1 = ((bit E d : Nat) : Int):=by
  rw [shr_at d (by omega),and1]
  · unfold bit
    simp
  · have : (E : Int) / 2 ^ d = ((E / 2 ^ d : Nat) : Int):=by simp
    rw [this]
    have:=Nat.div_le_self E (2 ^ d);generalize E / 2 ^ d = z at *;exact ⟨by omega,by omega⟩
theorem rgo : ∀ (d k : Nat) {E T : Nat} {x3 i : Int},d < k → d ≤ 32 → i = 33 - (d : Int) → 0 ≤ x3 → E < 18446744073709551616 → T ≤ 9223372036854775808 →
    backfillref07_Half.l0 k (E : Int) x3 rungsL (T : Int) i = some (shr .u64 ((hgo d E T : Nat) : Int) x3)
  | 0,k,E,T,x3,i,hk,_,hi,h3,_,_ => by
    obtain ⟨k,rfl⟩ : ∃ m,k = m + 1:=⟨k - 1,by omega⟩;simp only [backfillref07_Half.l0];rw [if_neg (by omega),if_pos h3,hgo]
  | d + 1,k,E,T,x3,i,hk,hd,hi,h3,hE,hT => by
    obtain ⟨k,rfl⟩ : ∃ m,k = m + 1:=⟨k - 1,by omega⟩;simp only [backfillref07_Half.l0];subst hi;rw [if_pos (by omega),show wrap64 (32 - (33 - ((d + 1 : Nat) : Int))) = (d : Int) by rw [wrap64_in (by omega) (by omega)];omega,if_pos (by omega),shr_bit E d hE (by omega)];rw [show wrap64 (33 - ((d + 1 : Nat) : Int) + 1) = 33 - (d : Int) by rw [wrap64_in (by omega) (by omega)];omega];rw [show wrap64 (33 - ((d + 1 : Nat) : Int) - 1) = ((31 - d : Nat) : Int) by rw [wrap64_in (by omega) (by omega)];omega];have hb:=bit_lt E d;have hr : rung d < 18446744073709551616:=rung_lt (d:=d) (by omega);rw [hgo]
    by_cases c : bit E d = 0
    · rw [if_neg (by omega),if_pos c]
      exact rgo d k (by omega) (by omega) rfl h3 hE hT
    · rw [if_pos (by omega),if_neg c,if_pos (by omega),if_pos (show ((31 - d : Nat) : Int) < (rungsL.length : Int) by rw [show rungsL.length = 32 from rfl];omega),rd_rung (by omega)]
      rw [rmul ⟨by omega,by omega⟩ ⟨by omega,by omega⟩];simp only [Option.bind_some];have e : (T : Int) * ((rung d : Nat) : Int) / 18446744073709551616 = ((T * rung d / BB : Nat) : Int):=by simp
      rw [e];refine rgo d k (by omega) (by omega) rfl h3 hE ?_;apply Nat.div_le_of_le_mul;rw [Nat.mul_comm BB];exact Nat.le_trans (Nat.mul_le_mul_left _ (Nat.le_of_lt hr)) (Nat.mul_le_mul_right _ hT)
theorem rhalf (k : Nat) (hk : 33 ≤ k) {e : Int} (h : U e) : backfillref07_Half.f k e = some ((HH e.toNat : Nat) : Int):=by
  obtain ⟨h0,h1⟩:=h;obtain ⟨E,rfl⟩:=Int.eq_ofNat_of_zero_le h0;rw [Int.toNat_natCast];unfold backfillref07_Half.f HH
  by_cases c : E / 4294967296 ≥ 63
  · rw [if_pos (by omega),if_pos c];rfl
  · rw [if_neg (by omega),if_neg c,rrungs]
    simp only [Option.bind_some]
    have:=rgo 32 k (E:=E) (T:=9223372036854775808) (x3:=(E : Int) / 4294967296) (i:=1) (by omega) (by omega) (by omega) (by omega) (by omega) (by omega);rw [show ((9223372036854775808 : Nat) : Int) = 9223372036854775808 from rfl] at this;rw [this,show (E : Int) / 4294967296 = ((E / 4294967296 : Nat) : Int) by omega,shr_at _ (by omega)];unfold gg;simp
end Go.Proofs.YtodibpddlibneaaGreatDoor.Q
namespace Go.Proofs.YtodibpddlibneaaGreatDoor.T
open Go.RowKit YtodibpddlibneaaGreatDoorW.PrintWords YtodibpddlibneaaGreatDoorW.PrintLast H Go.Maps Q GSH
set_option linter.unusedVariables false
set_option linter.unusedSimpArgs false
def toS (a : Acc) : S31:=⟨a.nm,a.par,a.sh,a.cl,a.us⟩
theorem c_accs {w : World} {A : Option Addr} {n : Nat} {ls : List Acc} (h : Rd Ec w A n ls) : Kd.C k31 w A n (ls.map toS):=by
  refine ⟨by rw [List.length_map];exact h.1,h.2.1,fun hn => ?_⟩;obtain ⟨ad,rfl,hc⟩:=h.2.2 hn;refine ⟨ad,rfl,fun j p hp => ?_⟩;rw [List.getElem?_map] at hp;obtain ⟨a,ha,rfl⟩:=Option.map_eq_some_iff.1 hp;refine ⟨_,rfl,k31_mk w (toS a),fun i u hu => ?_⟩;have hi : i < 5:=by have:=(List.getElem?_eq_some_iff.1 hu).1;simpa using this
  refine hc (j * 5 + i) u ?_
  have:=flat_at Ec ls j i a ha (by show i < 5;exact hi);rw [show j * Ec.sz + i = j * 5 + i from rfl] at this;rw [this];exact hu
theorem c_nums {k : IntKind} {w : World} {A : Option Addr} {n : Nat} {xs : List Int} (h : Rd (Ei k) w A n xs) : Kd.C (Kd.int k) w A n xs:=
  Kd.C_of_reads (d:=0) ⟨h.1,h.2.1,fun hn => by
    obtain ⟨ad,e,hc⟩:=h.2.2 hn;refine ⟨ad,e,fun j hj => ?_⟩;obtain ⟨ad',e',hc'⟩:=Rd.int h j hj;rw [e] at e';cases e';simpa [rd] using hc'⟩
theorem rd_S {ls : List Acc} {j : Nat} (h : j < ls.length) : rd_T31 (ls.map toS) (j : Int) = toS ls[j]:=by
  unfold rd_T31;rw [Int.toNat_natCast,List.getD_eq_getElem?_getD,List.getElem?_map,lG h];rfl
theorem rd_S1 {ls : List Acc} {j : Nat} (h : j < ls.length) : (rd_T31 (ls.map toS) (j : Int)).f1 = parV ls (j : Int):=by
  rw [rd_S h,parV_at (lG h)];rfl
theorem rd_S2 {ls : List Acc} {j : Nat} (h : j < ls.length) : (rd_T31 (ls.map toS) (j : Int)).f2 = shV ls (j : Int):=by
  rw [rd_S h,shV_at (lG h)];rfl
theorem sumL_le {ls : List Acc} (t : Tree ls) (p : Int) {j : Nat} (h : j ≤ ls.length) : 0 ≤ sumL (shV ls) (kidsV ls p j) ∧ sumL (shV ls) (kidsV ls p j) ≤ 262144:=by
  obtain ⟨_,b,c⟩:=sis_sum t (p:=p) h
  have:=kidsV_len ls p j
  have:=t.le;omega
theorem tog_l0 {ls : List Acc} (t : Tree ls) (p : Int) : ∀ (m j k : Nat),j + m = ls.length → m < k → backfillref13_Together.l0 k (ls.map toS) p (sumL (shV ls) (kidsV ls p j)) (j : Int) = some (totS ls p)
  | m,j,0,_,hk => by omega
  | 0,j,k + 1,h,hk => by
    rw [backfillref13_Together.l0,List.length_map,if_neg (by omega)];rw [show j = ls.length by omega];rfl
  | m + 1,j,k + 1,h,hk => by
    have hj : j < ls.length:=by omega
    rw [backfillref13_Together.l0,List.length_map,if_pos (by omega),if_pos (by omega),rd_S1 hj,rd_S2 hj];have ih:=tog_l0 t p m (j + 1) k (by omega) (by omega);have h64:=t.le;rw [wrap64_in (x:=(j : Int) + 1) (by omega) (by omega)];have hs:=t.sh j hj;have hb:=sumL_le t p (j:=j) (by omega);rw [kids_step hj] at ih
    by_cases e : parV ls (j : Int) = p
    · rw [if_pos e,wrap64_in (by omega) (by omega)]
      rw [if_pos e,sumL_snoc] at ih;exact ih
    · rw [if_neg e]
      rw [if_neg e] at ih;exact ih
theorem tog_f {ls : List Acc} (t : Tree ls) (p : Int) (k : Nat) (hk : 65 ≤ k) : backfillref13_Together.f k (ls.map toS) p = some (totS ls p):=by
  have:=t.le;exact tog_l0 t p ls.length 0 k (by omega) (by omega)
theorem part_f13 {ls : List Acc} (t : Tree ls) : ∀ (d k : Nat) (i : Nat),i < ls.length → depV ls (i : Int) = d → 66 + d ≤ k → backfillref13_part.f k (ls.map toS) (i : Int) = some (partV ls (i : Int))
  | d,0,i,_,_,hk => by omega
  | d,k + 1,i,hi,hd,hk => by
    rw [backfillref13_part.f,List.length_map,if_pos (by omega),if_pos (by omega),rd_S1 hi,rd_S2 hi]
    by_cases h0 : i = 0
    · subst h0
      rw [show (((0 : Nat) : Int)) = 0 from rfl,t.par0,if_pos (by decide)];rw [show partV ls 0 = (1,1) from clm_root]
    · obtain ⟨a,b,c⟩:=t.par (n:=(i : Int)) (by omega) (by omega)
      obtain ⟨p,hp⟩ : ∃ p : Nat,parV ls (i : Int) = p:=⟨(parV ls (i : Int)).toNat,by omega⟩;rw [if_neg (by omega)]
      cases d with
      | zero => have:=dep_zero (ls:=ls) hd;omega
      | succ d =>
        rw [hp] at a b c ⊢;refine bind_of (part_f13 t d k p (by omega) (by omega) (by omega)) ?_;refine bind_of (tog_f t (p : Int) k (by omega)) ?_;have hs : partV ls (i : Int) = shG ls (i : Int) (partV ls (p : Int)):=by rw [← hp];exact clm_step t (by omega) (by omega)
        have h1:=(sis_sum t (p:=(p : Int)) (Nat.le_refl ls.length)).1;have h2:=sumL_le t (p : Int) (Nat.le_refl ls.length);rw [hs];unfold shG;rw [hp,h1];unfold totS;rw [w64_in (x:=sumL (shV ls) (kidsV ls (p : Int) ls.length)) h2.1 (by omega)]
theorem root_f {ls : List Acc} (t : Tree ls) (k : Nat) (hk : 1 ≤ k) : backfillref13_root.f k (ls.map toS) = some 0:=by
  obtain ⟨m,rfl⟩ : ∃ m,k = m + 1:=⟨k - 1,by omega⟩;have hp:=t.pos;unfold backfillref13_root.f;rw [backfillref13_root.l0,List.length_map,if_pos (by omega),if_pos (by omega)]
  have:=rd_S1 (ls:=ls) (j:=0) hp;rw [show (((0 : Nat) : Int)) = 0 from rfl] at this;rw [this,t.par0,if_pos (by decide)]
theorem rq_add {a b : Int} (ha : U a) (hb : U b) : ∃ o,backfillref04_Add.f a b = some (addU a b,o):=by
  unfold backfillref04_Add.f;refine ⟨decide (a + b < 18446744073709551616),?_⟩;refine bind_of (show backfillref01_Of.f a = some (0,a) from rfl) ?_;refine bind_of (show backfillref01_Of.f b = some (0,b) from rfl) ?_;refine bind_of (radd (ah:=0) (al:=a) (bh:=0) (bl:=b) ⟨by decide,by decide⟩ ha ⟨by decide,by decide⟩ hb) ?_;obtain ⟨a0,a1⟩:=ha;obtain ⟨b0,b1⟩:=hb;rw [show addV (V 0 a) (V 0 b) = ((a + b) / 18446744073709551616,(a + b) % 18446744073709551616,true) by unfold addV V;rw [if_pos (by omega)];simp];unfold backfillref04_small.f addU;dsimp only
  by_cases c : a + b < 18446744073709551616
  · rw [if_neg (by omega),if_pos c,dT c]
    simp only [Option.bind_some]
    congr 2;omega
  · rw [if_pos (by omega),if_neg c,dF c]
    simp only [Option.bind_some]
theorem us_len (ls : List Acc) : (ls.map Acc.us).length = ls.length:=List.length_map _
theorem rd_us (ls : List Acc) (i : Int) : rd (ls.map Acc.us) i = usV ls i:=rfl
theorem sum_f13 {ls : List Acc} (t : Tree ls) (hu : AccU ls) : ∀ (m : Nat),(∀ (a k : Nat),a < ls.length → 5 ≤ depV ls (a : Int) + m → m * 66 ≤ k → backfillref13_Sum.f k (ls.map toS) (ls.map Acc.us) (a : Int) = some (sumF ls m (a : Int)))
  | 0,a,k,ha,hm,hk => by have:=(t.dep a ha).2;omega
  | m + 1,a,k,ha,hm,hk => by
    obtain ⟨k,rfl⟩ : ∃ q,k = q + 1:=⟨k - 1,by omega⟩;rw [backfillref13_Sum.f,us_len,if_pos (by omega),if_pos (by omega),rd_us];have h64:=t.le;have key : ∀ (r j q : Nat),j + r = ls.length → m * 66 + r < q → backfillref13_Sum.l0 q (ls.map toS) (ls.map Acc.us) (a : Int) (upF (sumF ls m) ls (a : Int) (kidsV ls (a : Int) j)) (j : Int) = some (upF (sumF ls m) ls (a : Int) (kidsV ls (a : Int) ls.length)):=by
      intro r
      induction r with
      | zero =>
        intro j q hj hq;obtain ⟨q,rfl⟩ : ∃ x,q = x + 1:=⟨q - 1,by omega⟩;rw [backfillref13_Sum.l0,List.length_map,if_neg (by omega),show j = ls.length by omega]
      | succ r ih =>
        intro j q hj hq;obtain ⟨q,rfl⟩ : ∃ x,q = x + 1:=⟨q - 1,by omega⟩;have hjl : j < ls.length:=by omega
        rw [backfillref13_Sum.l0,List.length_map,if_pos (by omega),if_pos (by omega),rd_S1 hjl];have ih':=ih (j + 1) q (by omega) (by omega);rw [kids_step hjl] at ih';rw [wrap64_in (x:=(j : Int) + 1) (by omega) (by omega)]
        by_cases e : parV ls (j : Int) = (a : Int)
        · rw [if_pos e]
          rw [if_pos e] at ih';have hkid:=t.kid (p:=(a : Int)) (k:=(j : Int)) (by omega) ((kids_mem (Nat.le_refl _)).2 ⟨by omega,by omega,e⟩);refine bind_of (sum_f13 t hu m j q hjl (by omega) (by omega)) ?_;have hU : U (upF (sumF ls m) ls (a : Int) (kidsV ls (a : Int) j)):=foldU _ _ (usV_in hu _) (fun i _ => sumF_in hu m i);obtain ⟨o,ho⟩:=rq_add hU (sumF_in hu m (j : Int));refine bind_of ho ?_;have e2 : upF (sumF ls m) ls (a : Int) (kidsV ls (a : Int) j ++ [(j : Int)]) = addU (upF (sumF ls m) ls (a : Int) (kidsV ls (a : Int) j)) (sumF ls m (j : Int)):=by
            unfold upF;rw [List.foldl_append];rfl
          rw [e2] at ih';exact ih'
        · rw [if_neg e]
          rw [if_neg e] at ih';exact ih'
    have:=key ls.length 0 k (by omega) (by omega);exact this
theorem sum_f5 {ls : List Acc} (t : Tree ls) (hu : AccU ls) (a k : Nat) (ha : a < ls.length) (hk : 330 ≤ k) : backfillref13_Sum.f k (ls.map toS) (ls.map Acc.us) (a : Int) = some (sumV ls (a : Int)):=
  sum_f13 t hu 5 a k ha (by have:=t.dep a ha;omega) (by omega)
theorem used_f {s W : Int} (k : Nat) (hk : 129 ≤ k) (hs : U s) (hW : U W) : backfillref13_used.f k s W = some (partQ s 9223372036854775808 W):=by
  unfold backfillref13_used.f partQ;refine bind_of (rmul hs UONE) ?_
  by_cases h0 : W = 0
  · subst h0
    rw [if_pos rfl];exact bind_of (rdiv0 k) rfl
  · rw [if_neg h0]
    refine bind_of (rdiv k hk (hiU hs UONE).1 (hiU hs UONE).2 hW h0) ?_;rw [VV]
theorem eff_f13 {ls : List Acc} (t : Tree ls) (hu : AccU ls) {W : Int} (hW : U W) : ∀ (d k : Nat) (i : Nat),i < ls.length → depV ls (i : Int) = d → 331 + d ≤ k → backfillref13_effective.f k (ls.map toS) (ls.map Acc.us) W (i : Int) = some (effV ls W (i : Int))
  | d,0,i,_,_,hk => by omega
  | d,k + 1,i,hi,hd,hk => by
    rw [backfillref13_effective.f];refine bind_of (sum_f5 t hu i k hi (by omega)) ?_;refine bind_of (used_f k (by omega) (sumV_in hu _) hW) ?_;rw [List.length_map,if_pos (by omega),if_pos (by omega),rd_S1 hi,rd_S2 hi];have hrs : rd (sumsV ls) (i : Int) = sumV ls (i : Int):=rd_sums (by omega) (by omega)
    by_cases h0 : i = 0
    · subst h0
      rw [show (((0 : Nat) : Int)) = 0 from rfl] at hrs ⊢;rw [t.par0,if_pos (by decide),← hrs];rw [show effV ls W 0 = partQ (rd (sumsV ls) 0) 9223372036854775808 W from clm_root]
    · obtain ⟨a,b,c⟩:=t.par (n:=(i : Int)) (by omega) (by omega)
      obtain ⟨p,hp⟩ : ∃ p : Nat,parV ls (i : Int) = p:=⟨(parV ls (i : Int)).toNat,by omega⟩;rw [if_neg (by omega)]
      cases d with
      | zero => have:=dep_zero (ls:=ls) hd;omega
      | succ d =>
        rw [hp] at a b c ⊢;refine bind_of (eff_f13 t hu hW d k p (by omega) (by omega) (by omega)) ?_;have hs : effV ls W (i : Int) = efG ls (sumsV ls) W (i : Int) (effV ls W (p : Int)):=by rw [← hp];exact clm_step t (by omega) (by omega)
        have h1:=(sis_sum t (p:=(p : Int)) (Nat.le_refl ls.length)).1;have h2:=sumL_le t (p : Int) (Nat.le_refl ls.length);have hw : IntKind.u64.wrap (totS ls (p : Int)) = totS ls (p : Int):=w64_in h2.1 (by unfold totS;omega);have hUT : U (totS ls (p : Int)):=⟨h2.1,by unfold totS;omega⟩;rw [hs];unfold efG;rw [hp,h1,hrs];rw [show sumL (shV ls) (kidsV ls (p : Int) ls.length) = totS ls (p : Int) from rfl];generalize partQ (sumV ls (i : Int)) 9223372036854775808 W = u;generalize effV ls W (p : Int) = E;have hm:=hiU (wrapU (E - u)) (wrapU (shV ls (i : Int)));refine bind_of (rmul (wrapU _) (wrapU _)) ?_;refine bind_of (tog_f t (p : Int) k (by omega)) ?_;rw [hw];unfold partQ
        by_cases hT : totS ls (p : Int) = 0
        · rw [hT,if_pos rfl]
          exact bind_of (rdiv0 k) rfl
        · rw [if_neg hT]
          refine bind_of (rdiv k (by omega) hm.1 hm.2 hUT hT) ?_;rw [VV]
theorem exp13_j3 {e : Int} (h0 : 0 ≤ e) (h1 : e < 340282366920938463463374607431768211455) (b : Bool) (k : Nat) : backfillref13_Exponent.j3 (k + 1) b (e / 18446744073709551616) (e % 18446744073709551616) = some (if e + (if b = true then 1 else 0) < 18446744073709551616 then e + (if b = true then 1 else 0) else 18446744073709551615):=by
  have U3 : U (e / 18446744073709551616):=by unfold U;omega
  have U4 : U (e % 18446744073709551616):=by unfold U;omega
  rw [backfillref13_Exponent.j3]
  cases b
  · rw [if_neg (by decide)]
    simp only [Bool.false_eq_true,if_false,Int.add_zero]
    by_cases c : e < 18446744073709551616
    · rw [if_neg (by omega),if_pos c];congr 1;omega
    · rw [if_pos (by omega),if_neg c]
  · rw [if_pos rfl]
    simp only [if_true];refine bind_of (show backfillref01_Of.f 1 = some (0,1) from rfl) ?_;refine bind_of (radd U3 U4 ⟨by decide,by decide⟩ ⟨by decide,by decide⟩) ?_;rw [VV,show V 0 1 = 1 from rfl,show addV e 1 = ((e + 1) / 18446744073709551616,(e + 1) % 18446744073709551616,true) from if_pos (by omega)];dsimp only
    by_cases c : e + 1 < 18446744073709551616
    · rw [if_neg (by omega),if_pos c];congr 1;omega
    · rw [if_pos (by omega),if_neg c]
theorem exp13_j2 {q : Int} (h0 : 0 ≤ q) (h1 : q < 340282366920938463463374607431768211455) (k : Nat) (hk : 129 ≤ k) : backfillref13_Exponent.j2 (k + 2) true (q / 18446744073709551616) (q % 18446744073709551616) = some (if q / 2147483648 + (if q % 2147483648 > 0 then 1 else 0) < 18446744073709551616 then q / 2147483648 + (if q % 2147483648 > 0 then 1 else 0) else 18446744073709551615):=by
  have U3 : U (q / 18446744073709551616):=by unfold U;omega
  have U4 : U (q % 18446744073709551616):=by unfold U;omega
  rw [backfillref13_Exponent.j2];refine bind_of (rdiv (k + 1) (by omega) U3 U4 ⟨by decide,by decide⟩ (by decide)) ?_;rw [VV,if_pos rfl];rw [exp13_j3 (e:=q / 2147483648) (by omega) (by omega)]
  by_cases c : q % 2147483648 > 0
  · simp only [dT c,if_pos c,if_true]
  · simp only [dF c,if_neg c,Bool.false_eq_true,if_false]
theorem exp13_j0 {x0 x1 x2 : Int} (h0 : U x0) (h1 : U x1) (h2 : U x2) (hp : 0 < x1) (k : Nat) (hk : 129 ≤ k) : backfillref13_Exponent.j0 (k + 4) x0 x1 x2 true = some (expQ (x0 * x2) x1):=by
  rw [backfillref13_Exponent.j0];refine bind_of (rmul h0 h2) ?_;obtain ⟨u1,u2⟩:=hiU h0 h2;have hbd:=mul_bd h0 h2;refine bind_of (rdiv (k + 3) (by omega) u1 u2 h1 (by omega)) ?_;rw [VV];obtain ⟨x,hx⟩ : ∃ x,x = x0 * x2:=⟨_,rfl⟩;rw [← hx] at hbd ⊢;obtain ⟨q,hq⟩ : ∃ q,q = x / x1:=⟨_,rfl⟩;obtain ⟨r,hr⟩ : ∃ r,r = x % x1:=⟨_,rfl⟩;have hxq : x = q * x1 + r:=by rw [hq,hr,Int.mul_comm];exact (Int.mul_ediv_add_emod x x1).symm
  have hr0 : 0 ≤ r:=by rw [hr];exact Int.emod_nonneg _ (by omega)
  have hr1 : r < x1:=by rw [hr];exact Int.emod_lt_of_pos _ hp
  have hq0 : 0 ≤ q:=by rw [hq];exact Int.ediv_nonneg hbd.1 (by omega)
  have hq1 : q ≤ x:=by rw [hq];exact Int.ediv_le_self _ hbd.1
  have hE:=expQ_up hp hxq hr0 hr1;unfold expQ;rw [← hq,← hr,hE];have U1 : U (q / 18446744073709551616):=by unfold U;omega
  have U2 : U (q % 18446744073709551616):=by unfold U;omega
  clear hq hr hE hx hxq h0 h1 h2 u1 u2;dsimp only;rw [if_pos rfl,backfillref13_Exponent.j1]
  by_cases c : r > 0
  · rw [dT c,if_pos rfl,if_pos (Or.inl c)]
    refine bind_of (show backfillref01_Of.f 1 = some (0,1) from rfl) ?_;refine bind_of (radd U1 U2 ⟨by decide,by decide⟩ ⟨by decide,by decide⟩) ?_;rw [VV,show V 0 1 = 1 from rfl,show addV q 1 = ((q + 1) / 18446744073709551616,(q + 1) % 18446744073709551616,true) from if_pos (by omega)];rw [exp13_j2 (q:=q + 1) (by omega) (by omega) k hk];have e : (q + 1) / 2147483648 + (if (q + 1) % 2147483648 > 0 then 1 else 0) = q / 2147483648 + 1:=by split <;> omega
    rw [e]
  · rw [dF c,if_neg (by decide),exp13_j2 hq0 (by omega) k hk]
    by_cases c2 : q % 2147483648 > 0
    · rw [if_pos c2,if_pos (Or.inr c2)]
    · rw [if_neg c2,if_neg (show ¬ (r > 0 ∨ q % 2147483648 > 0) by omega)]
theorem exp13_f {u n d : Int} (hu : U u) (hn : U n) (hd : U d) (hp : 0 < n) : backfillref13_Exponent.f 140 u n d true = some (expV u n d):=by
  unfold backfillref13_Exponent.f;refine bind_of (rmul hn ⟨by decide,by decide⟩) ?_;refine bind_of (show backfillref01_Of.f d = some (0,d) from rfl) ?_;have h:=rcmp (ah:=n * 4096 / 18446744073709551616) (al:=n * 4096 % 18446744073709551616) (bh:=0) (bl:=d) 140 (by omega) (hiU hn ⟨by decide,by decide⟩).2 hd;refine bind_of h ?_;rw [VV,show V 0 d = d by unfold V;omega];unfold cmpV expV
  by_cases c : n * 4096 < d
  · rw [if_pos c,if_pos c,if_pos (by decide)]
    exact exp13_j0 hu ⟨by decide,by decide⟩ ⟨by decide,by decide⟩ (by decide) 136 (by omega)
  · rw [if_neg c,if_neg c]
    by_cases c2 : n * 4096 = d
    · rw [if_pos c2,if_neg (by decide)];exact exp13_j0 hu hn hd hp 136 (by omega)
    · rw [if_neg c2,if_neg (by decide)];exact exp13_j0 hu hn hd hp 136 (by omega)
section
variable (w : World) (A : Option Addr) (n c : Nat) (ls : List Acc) (hr : Rd Ec w A n ls) (hc : n ≤ c) (t : Tree ls)
include hr hc t
theorem part13_calls (i : Nat) (hi : i < n) : Calls Tryz.prog 49 #[.slice A n c,.int .i64 i] w fun e w' => e = .returned (.tuple #[.int .u64 (partV ls (i : Int)).1,.int .u64 (partV ls (i : Int)).2]) ∧ w.grownBy w' none:=by
  have hl : (ls.map toS).length = n:=by rw [List.length_map];exact hr.1
  have hil : i < ls.length:=by rw [hr.1];exact hi
  have hd:=t.dep i hil;have h:=backfillref13_part.calls 75 A c (ls.map toS) (i : Int) _ _ w (by rw [hl];exact c_accs hr) (by omega) (part_f13 t (depV ls (i : Int)).toNat 75 i hil (by omega) (by omega));rw [hl] at h;exact h.mono (fun e w' h => ⟨h.1,gb_of_below (Drawn0.below h.2) none⟩)
theorem root13_calls : Calls Tryz.prog 46 #[.slice A n c] w fun e w' => e = .returned (.int .i64 0) ∧ w.grownBy w' none:=by
  have hl : (ls.map toS).length = n:=by rw [List.length_map];exact hr.1
  have h:=backfillref13_root.calls 75 A c (ls.map toS) _ w (by rw [hl];exact c_accs hr) (by omega) (root_f t 75 (by omega));rw [hl] at h;exact h.mono (fun e w' h => ⟨h.1,gb_of_below (Drawn0.below h.2) none⟩)
variable (hu : AccU ls) (B : Option Addr) (bc : Nat) (hB : Rd (Ei .u64) w B n (ls.map Acc.us)) (hbc : n ≤ bc)
include hu hB hbc
theorem sum13_calls (i : Nat) (hi : i < n) : Calls Tryz.prog 45 #[.slice A n c,.slice B n bc,.int .i64 i] w fun e w' => e = .returned (.int .u64 (sumV ls (i : Int))) ∧ w.grownBy w' none:=by
  have hl : (ls.map toS).length = n:=by rw [List.length_map];exact hr.1
  have hl2 : (ls.map Acc.us).length = n:=by rw [List.length_map];exact hr.1
  have h:=backfillref13_Sum.calls 400 A c (ls.map toS) B bc (ls.map Acc.us) (i : Int) _ w (by rw [hl];exact c_accs hr) (by omega) (by rw [hl2];exact c_nums hB) (by omega) (sum_f5 t hu i 400 (by rw [hr.1];exact hi) (by omega));rw [hl,hl2] at h;exact h.mono (fun e w' h => ⟨h.1,gb_of_below h.2 none⟩)
theorem eff13_calls (W : Int) (hW : U W) (i : Nat) (hi : i < n) : Calls Tryz.prog 48 #[.slice A n c,.slice B n bc,.int .u64 W,.int .i64 i] w fun e w' => e = .returned (.int .u64 (effV ls W (i : Int))) ∧ w.grownBy w' none:=by
  have hl : (ls.map toS).length = n:=by rw [List.length_map];exact hr.1
  have hl2 : (ls.map Acc.us).length = n:=by rw [List.length_map];exact hr.1
  have hil : i < ls.length:=by rw [hr.1];exact hi
  have hd:=t.dep i hil;have h:=backfillref13_effective.calls 400 A c (ls.map toS) B bc (ls.map Acc.us) W (i : Int) _ w (by rw [hl];exact c_accs hr) (by omega) (by rw [hl2];exact c_nums hB) (by omega) (eff_f13 t hu hW (depV ls (i : Int)).toNat 400 i hil (by omega) (by omega));rw [hl,hl2] at h;exact h.mono (fun e w' h => ⟨h.1,gb_of_below h.2 none⟩)
end
theorem exp13_calls (w : World) (u n d : Int) (hu : U u) (hn : U n) (hd : U d) (hp : 0 < n) : Calls Tryz.prog 24 #[.int .u64 u,.int .u64 n,.int .u64 d,.bool true] w fun e w' => e = .returned (.int .u64 (expV u n d)) ∧ w.grownBy w' none:=
  (backfillref13_Exponent.calls 140 u n d true _ w (exp13_f hu hn hd hp)).mono (fun e w' h => ⟨h.1,gb_of_below h.2 none⟩)
theorem half07_calls (w : World) (e : Int) (he : U e) : Calls Tryz.prog 23 #[.int .u64 e] w fun q w' => q = .returned (.int .u64 (halfV e)) ∧ w.grownBy w' none:=
  (backfillref07_Half.calls 40 e _ w (rhalf 40 (by omega) he)).mono (fun e w' h => ⟨h.1,gb_of_below h.2 none⟩)
theorem right_calls (w : World) (A : Option Addr) (n c : Nat) (ls : List Acc) (hr : Rd Ec w A n ls) (hok : AccOk ls) :
    Calls Tryz.prog 44 #[.slice A n c] w fun e w' => e = .returned (.bool (loadE ls == 0)) ∧ w.grownBy w' none:=by
  have HC:=Am (refload_calls w A n c ls hr hok);clear hr hok;go_enter Tryz.func44,Tryz.ntmps44;go_wp2_with fail
  refine (HC.out).mono ?_;rintro e w1 ⟨⟨o,rfl⟩,hg⟩;have HG:=Am hg;obtain ⟨ev,hev⟩ : ∃ ev,ev = loadE ls:=⟨_,rfl⟩;have HEV:=Am hev;rw [← hev];clear hg HC hev;go_wp2;go_ret;exact ⟨by rw [← HEV.out];rfl,HG.out⟩
theorem lit0 (w : World) {B : Nat} (hB : B ≤ w.heap.size) : (w.alloc (.cells #[] 29)).ownsRow B 29 (Ei .u64).sz (.slice (some ⟨w.heap.size,0,none⟩) 0 0) 0 (flat (Ei .u64) []):=World.ownsRow_lit (e:=29) (size:=1) w #[] 0 hB (by simp [maxLen]) (by simp)
/-- What the document's Shares answers: two lists. -/
def RShI (w : World) (ls : List Acc) (e : Ending) (w' : World) : Prop:=
  w.grownBy w' none ∧ ∃ v1 v2,e = .returned (.tuple #[v1,v2]) ∧
    (loadE ls ≠ 0 → w'.ownsRow w.heap.size 29 (Ei .u64).sz v1 0 (flat (Ei .u64) []) ∧ w'.ownsRow w.heap.size 29 (Ei .u64).sz v2 0 (flat (Ei .u64) [])) ∧
    (loadE ls = 0 → w'.ownsRow w.heap.size 29 (Ei .u64).sz v1 ls.length (flat (Ei .u64) (numsV ls)) ∧ w'.ownsRow w.heap.size 29 (Ei .u64).sz v2 ls.length (flat (Ei .u64) (densV ls)))
theorem rShares_calls (w : World) (A : Option Addr) (n c : Nat) (ls : List Acc) (hr : Rd Ec w A n ls) (hc : n ≤ c) (hok : AccOk ls) :
    Calls Tryz.prog 22 #[.slice A n c] w (RShI w ls):=by
  have hlen:=hr.2.1;have HN:=Am hr.1;have HR:=Am hr;have HC:=Am hc;have HRT:=Am (fun (W : World) (h : Rd Ec W A n ls) => right_calls W A n c ls h hok);clear hr hc hok;go_enter Tryz.func22,Tryz.ntmps22;go_upto_region 3 with (fail)
  have HG0:=Am (gT (gA w (.cells #[] 29) none) (gA (w.alloc (.cells #[] 29)) (.cells #[] 29) none));have HA0:=Am (own_kept (lit0 w (Nat.le_refl _)) (gA (w.alloc (.cells #[] 29)) (.cells #[] 29) none) (by simp));have HB0:=Am (lit0 (w.alloc (.cells #[] 29)) (B:=w.heap.size) (by simp only [World.size_alloc];omega));rw [World.size_alloc] at HB0;obtain ⟨ga,hga⟩ : ∃ g,g = w.heap.size:=⟨_,rfl⟩;obtain ⟨gb,hgb⟩ : ∃ g,g = w.heap.size + 1:=⟨_,rfl⟩;have HNE:=Am (show ga ≠ gb by omega);rw [← hgb] at HB0 ⊢;have HGA:=Am hga;clear hga hgb;generalize (w.alloc (.cells #[] 29)).alloc (.cells #[] 29) = w1 at HG0 HA0 HB0 ⊢;rw [← HGA.out] at HA0 ⊢;have HAw : Aside0 (w1.ownsRow w.heap.size 29 (Ei .u64).sz (.slice (some ⟨ga,0,none⟩) 0 0) 0 (flat (Ei .u64) [])):=⟨by have:=HA0.out;rw [HGA.out] at this ⊢;exact this⟩;go_wp2_with fail
  refine (HRT.out w1 (HR.out.gb HG0.out)).mono ?_;rintro e w2 ⟨rfl,hg⟩;have HG2:=Am (gT HG0.out hg);have HA2:=Am (own_kept HAw.out hg (by simp));have HB2:=Am (own_kept HB0.out hg (by simp));clear hg HRT HA0 HB0 HG0 HAw
  by_cases h0 : loadE ls = 0
  · have HE0:=Am h0
    have HT0:=Am (tree_of h0);have b0 : (loadE ls == 0) = true:=by rw [h0];rfl
    rw [b0];clear b0 h0;go_wp2_with fail
    go_loopg [4,5,6] n (fun k v4 v5 v6 wr => ∃ (j : Nat) (a b : Value) (xs ys : List Int),a = v4 ∧ b = v5 ∧ v6 = .int .i64 j ∧ Aside0 (j + k = n) ∧ j ≤ n ∧ Aside0 (xs = (List.range j).map (fun i : Nat => (partV ls (i : Int)).1)) ∧ Aside0 (ys = (List.range j).map (fun i : Nat => (partV ls (i : Int)).2)) ∧
      Aside0 (wr.ownsRow w.heap.size 29 (Ei .u64).sz a j (flat (Ei .u64) xs)) ∧ Aside0 (wr.ownsRow w.heap.size 29 (Ei .u64).sz b j (flat (Ei .u64) ys)) ∧ Aside0 (∀ k,a.ownBlock = some k → b.ownBlock ≠ some k) ∧ Aside0 (Tn w wr (fun k => w.heap.size ≤ k)))
    case atStart => exact ⟨0,_,_,[],[],rfl,rfl,rfl,⟨by omega⟩,by omega,⟨rfl⟩,⟨rfl⟩,HA2,HB2,⟨fun k h1 h2 => by simp [Value.ownBlock] at h1 h2;exact HNE.out (h1.trans h2.symm)⟩,⟨Tn.gb0 HG2.out _⟩⟩
    case round =>
      clear HA2 HB2;obtain ⟨j,a,b,xs,ys,rfl,rfl,rfl,HD,hj,HXS,HYS,HA,HB,HNQ,HT⟩:=hrel
      cases gk with
      | zero =>
        obtain rfl : j = n:=by have:=HD.out;omega
        go_wp2;go_ret2;refine ⟨gb_of_tn HT.out (fun k h => h),_,_,rfl,fun h => absurd HE0.out h,fun _ => ?_⟩;have h1:=HA.out;have h2:=HB.out;rw [HXS.out] at h1;rw [HYS.out] at h2;rw [HN.out];unfold numsV densV;rw [HN.out];exact ⟨h1,h2⟩
      | succ d =>
        have hlt : j < n:=by have:=HD.out;omega
        have hlt1 : decide ((j : Int) < (n : Int)) = true:=dT (by omega);have hji : (j : Int) < (n : Int):=by omega
        have h64 : n ≤ 64:=by have h1:=HT0.out.le;have h2:=HN.out;omega
        have HRr:=Am (HR.out.tn HT.out (fun ad ha hn e => by
          obtain ⟨ad',e',hcell⟩:=HR.out.2.2 hn;rw [ha] at e';cases e';obtain ⟨x,hx⟩ : ∃ x,ls[0]? = some x:=⟨_,lG (by have:=HN.out;omega)⟩;have h1:=acc_cells (by rw [← ha];exact HR.out) hx;have h2:=World.block_lt_of_cell? w _ h1.1;rw [H.add_block] at h2;exact absurd h2 (by have h3 : w.heap.size ≤ ad.block:=e;omega)))
        have HP:=Am (part13_calls wr A n c ls HRr.out HC.out HT0.out j hlt);obtain ⟨x,hx⟩ : ∃ x,x = (partV ls (j : Int)).1:=⟨_,rfl⟩;obtain ⟨y,hy⟩ : ∃ y,y = (partV ls (j : Int)).2:=⟨_,rfl⟩;rw [← hx,← hy] at HP;have HXN:=Am (show (List.range (j + 1)).map (fun i : Nat => (partV ls (i : Int)).1) = xs ++ [x] by rw [List.range_succ,List.map_append,← HXS.out,hx];rfl);have HYN:=Am (show (List.range (j + 1)).map (fun i : Nat => (partV ls (i : Int)).2) = ys ++ [y] by rw [List.range_succ,List.map_append,← HYS.out,hy];rfl);clear hx hy;go_wp2_with fail
        refine (HP.out).mono ?_;rintro e w3 ⟨rfl,hg⟩;have HT3:=Am (HT.out.trans' (Tn.gb0 hg _));have HA3:=Am (own_kept (own_kept HA.out hg (by simp)) (gA w3 (.cells #[.int .u64 x] 29) none) (by simp));have HB3:=Am (own_kept (own_kept HB.out hg (by simp)) (gA w3 (.cells #[.int .u64 x] 29) none) (by simp));have HL3:=Am (show Rd (Ei .u64) (w3.alloc (.cells #[.int .u64 x] 29)) (some ⟨w3.heap.size,0,none⟩) 1 [x] from rd_lit (Ei .u64) w3 29 [x] (by simp));have HZ3:=Am (show w.heap.size ≤ (w3.alloc (.cells #[.int .u64 x] 29)).heap.size from Nat.le_trans HT3.out.size (gA w3 (.cells #[.int .u64 x] 29) none).size);have HTa:=Am (HT3.out.trans' (Tn.alloc w3 (.cells #[.int .u64 x] 29) _));clear hg HP;go_wp2_with (first | (at_builtin;refine app_at (Ei .u64) w.heap.size rfl (.tmp 28) (.tmp 30) 42 29 (.int .u64 0) 8 rfl Tryz.underlying42 (by kernel_rfl) rfl (by decide) a j xs [x] ⟨w3.heap.size,0,none⟩ 1 1 rfl rfl HA3.out HL3.out HZ3.out (by omega) ?_;intro v4 w4 ho hg hat;have HO4:=Am ho;have HAT4:=Am hat;have HT4:=Am (HTa.out.trans' (Tn.of_gb (F:=fun k => w.heap.size ≤ k) hg (fun k hk => (HA3.out.lt k hk).1)));have HB4:=Am (own_tn HB3.out (Tn.of_gb (F:=fun k => a.ownBlock = some k) hg (fun k hk => hk)) (fun k hk e => HNQ.out k e hk));have HZ4:=Am hg.size;have HB5:=Am (own_kept HB4.out (gA w4 (.cells #[.int .u64 y] 29) none) (by simp));have HO5:=Am (own_kept ho (gA w4 (.cells #[.int .u64 y] 29) none) (by simp));have HL5:=Am (show Rd (Ei .u64) (w4.alloc (.cells #[.int .u64 y] 29)) (some ⟨w4.heap.size,0,none⟩) 1 [y] from rd_lit (Ei .u64) w4 29 [y] (by simp));have HZ5:=Am (show w.heap.size ≤ (w4.alloc (.cells #[.int .u64 y] 29)).heap.size from Nat.le_trans HT4.out.size (gA w4 (.cells #[.int .u64 y] 29) none).size);clear ho hg hat) | (at_builtin;refine app_at (Ei .u64) w.heap.size rfl (.tmp 32) (.tmp 34) 42 29 (.int .u64 0) 8 rfl Tryz.underlying42 (by kernel_rfl) rfl (by decide) b j ys [y] ⟨w4.heap.size,0,none⟩ 1 1 rfl rfl HB5.out HL5.out HZ5.out (by omega) ?_;intro v5 w5 ho hg hat;have HO6:=Am ho;have HG6:=Am hg;have HAT6:=Am hat;clear ho hg hat))
        have hd4 : ∀ k,v4.ownBlock = some k → b.ownBlock ≠ some k:=fun k h1 h2 => by
          rcases HAT4.out with e | e
          · rw [e] at h1;exact HNQ.out k h1 h2
          · rw [e] at h1
            have h3:=(HB3.out.lt k h2).2;have h4:=oI h1;omega
        go_roundg d
        case measure => omega
        case rel =>
          refine ⟨j + 1,v4,v5,xs ++ [x],ys ++ [y],rfl,rfl,by go_num,⟨by have:=HD.out;omega⟩,by omega,⟨HXN.out.symm⟩,⟨HYN.out.symm⟩,⟨own_tn HO5.out (Tn.of_gb (F:=fun k => b.ownBlock = some k) HG6.out (fun k hk => hk)) (fun k hk e => hd4 k hk e)⟩,HO6,⟨fun k h1 h2 => ?_⟩,⟨(HT4.out.trans' (Tn.alloc w4 (.cells #[.int .u64 y] 29) _)).trans' (Tn.of_gb (F:=fun k => w.heap.size ≤ k) HG6.out (fun k hk => (HB5.out.lt k hk).1))⟩⟩;rcases HAT6.out with e | e
          · rw [e] at h2;exact hd4 k h1 h2
          · rw [e] at h2
            have h3:=(HO5.out.lt k h1).2;have h4:=oI h2;omega
  · have HE0:=Am h0
    have b0 : (loadE ls == 0) = false:=by rw [beq_eq_false_iff_ne];exact h0
    rw [b0];clear b0 h0;go_wp2;go_ret2;exact ⟨HG2.out,_,_,rfl,fun _ => ⟨HA2.out,HB2.out⟩,fun h => absurd h HE0.out⟩
/-- The accounts that were handed in stand. -/
theorem accs_tn {w w' : World} {A : Option Addr} {n : Nat} {ls : List Acc} (h : Rd Ec w A n ls) (t : Tn w w' (fun k => w.heap.size ≤ k)) : Rd Ec w' A n ls:=
  h.tn t (fun ad ha hn e => by
    obtain ⟨x,hx⟩ : ∃ x,ls[0]? = some x:=⟨_,lG (by have:=h.1;omega)⟩;have h1:=acc_cells (by rw [← ha];exact h) hx;have h2:=World.block_lt_of_cell? w _ h1.1;rw [H.add_block] at h2;have h3 : w.heap.size ≤ ad.block:=e
    omega)
/-- What the document's Effective,or Factors,answers: a list. -/
def RLI (w : World) (C : Int) (ls : List Acc) (xs : List Int) (e : Ending) (w' : World) : Prop:=
  w.grownBy w' none ∧ ∃ v,e = .returned v ∧
    (loadE ls ≠ 0 ∨ C ≠ 0 → w'.ownsRow w.heap.size 29 (Ei .u64).sz v 0 (flat (Ei .u64) [])) ∧
    (loadE ls = 0 → C = 0 → w'.ownsRow w.heap.size 29 (Ei .u64).sz v ls.length (flat (Ei .u64) xs))
theorem rEffective_calls (w : World) (a0 a1 a2 a3 a4 a5 a6 a7 : Int) (A : Option Addr) (n c : Nat) (ls : List Acc) (hr : Rd Ec w A n ls) (hc : n ≤ c) (hok : AccOk ls) (hus : AccU ls) :
    Calls Tryz.prog 21 #[.agg #[.int .i64 a0,.int .i64 a1,.int .i64 a2,.int .i64 a3,.int .i64 a4,.int .i64 a5,.int .i64 a6,.int .i64 a7],.slice A n c] w (RLI w (checkV a0 a1 a2 a3 a4 a5 a6 a7) ls (effsV ls (wholeV ls (floorV a0 a1 a2 a3 a4 a5 a6 a7)))):=by
  have hlen:=hr.2.1;have HN:=Am hr.1;have HR:=Am hr;have HC:=Am hc;have HUS:=Am hus;have HRT:=Am (fun (W : World) (h : Rd Ec W A n ls) => right_calls W A n c ls h hok);have HRC:=Am (fun (W : World) => rcheck_calls W a0 a1 a2 a3 a4 a5 a6 a7);have HRF:=Am (fun (W : World) => rfloor_calls W a0 a1 a2 a3 a4 a5 a6 a7);obtain ⟨CC,hC⟩ : ∃ C,C = checkV a0 a1 a2 a3 a4 a5 a6 a7:=⟨_,rfl⟩;obtain ⟨F,hF⟩ : ∃ F,F = floorV a0 a1 a2 a3 a4 a5 a6 a7:=⟨_,rfl⟩;have HFU : Aside0 (U F):=⟨by
    rw [hF];unfold floorV
    by_cases h : checkV a0 a1 a2 a3 a4 a5 a6 a7 = 0
    · rw [if_pos h];have:=floor_bd h;unfold U;omega
    · rw [if_neg h];exact ⟨by decide,by decide⟩⟩
  rw [← hC] at HRC ⊢;rw [← hF] at HRF ⊢;clear hr hc hok hus hC hF;go_enter Tryz.func21,Tryz.ntmps21;go_upto_region 2 with (fail)
  have e1:=gA w (.cells #[.int .i64 a0,.int .i64 a1,.int .i64 a2,.int .i64 a3,.int .i64 a4,.int .i64 a5,.int .i64 a6,.int .i64 a7] 23) none;have e2:=gA (w.alloc (.cells #[.int .i64 a0,.int .i64 a1,.int .i64 a2,.int .i64 a3,.int .i64 a4,.int .i64 a5,.int .i64 a6,.int .i64 a7] 23)) (.cells #[] 29) none;have HX1:=Am (blk_kept (heap_alloc_new w (.cells #[.int .i64 a0,.int .i64 a1,.int .i64 a2,.int .i64 a3,.int .i64 a4,.int .i64 a5,.int .i64 a6,.int .i64 a7] 23)) e2 (by simp));have HG1:=Am (gT e1 e2);have HO1:=Am (lit0 (w.alloc (.cells #[.int .i64 a0,.int .i64 a1,.int .i64 a2,.int .i64 a3,.int .i64 a4,.int .i64 a5,.int .i64 a6,.int .i64 a7] 23)) (B:=w.heap.size) (by simp only [World.size_alloc];omega));rw [World.size_alloc] at HO1;obtain ⟨go,hgo⟩ : ∃ g,g = w.heap.size + 1:=⟨_,rfl⟩;obtain ⟨g7,hg7⟩ : ∃ g,g = w.heap.size:=⟨_,rfl⟩;rw [← hgo] at HO1 ⊢;have HX1' : Aside0 (((w.alloc (.cells #[.int .i64 a0,.int .i64 a1,.int .i64 a2,.int .i64 a3,.int .i64 a4,.int .i64 a5,.int .i64 a6,.int .i64 a7] 23)).alloc (.cells #[] 29)).heap[g7]? = some (.cells #[.int .i64 a0,.int .i64 a1,.int .i64 a2,.int .i64 a3,.int .i64 a4,.int .i64 a5,.int .i64 a6,.int .i64 a7] 23 (0,0))):=⟨by rw [hg7];exact HX1.out⟩;rw [← hg7];have HW7:=Am (show w.heap.size ≤ g7 by omega);clear e1 e2 hgo hg7 HX1;generalize (w.alloc (.cells #[.int .i64 a0,.int .i64 a1,.int .i64 a2,.int .i64 a3,.int .i64 a4,.int .i64 a5,.int .i64 a6,.int .i64 a7] 23)).alloc (.cells #[] 29) = w1 at HX1' HG1 HO1 ⊢;go_wp2_with fail
  refine (HRT.out w1 (HR.out.gb HG1.out)).mono ?_;rintro e w2 ⟨rfl,hg⟩;have HX2:=Am (blk_kept HX1'.out hg (by simp));have HG2:=Am (gT HG1.out hg);have HO2:=Am (own_kept HO1.out hg (by simp));clear hg HRT HX1' HG1 HO1
  by_cases h0 : loadE ls = 0
  · have HE0:=Am h0
    have HT0:=Am (tree_of h0);have b0 : (loadE ls == 0) = true:=by rw [h0];rfl
    rw [b0];clear b0 h0;have c0:=cell_of (j:=0) HX2.out rfl;have c1:=cell_of (j:=1) HX2.out rfl;have c2:=cell_of (j:=2) HX2.out rfl;have c3:=cell_of (j:=3) HX2.out rfl;have c4:=cell_of (j:=4) HX2.out rfl;have c5:=cell_of (j:=5) HX2.out rfl;have c6:=cell_of (j:=6) HX2.out rfl;have c7:=cell_of (j:=7) HX2.out rfl;go_wp2_with fail
    refine (HRC.out w2).mono ?_;rintro e w3 ⟨rfl,hg⟩;have HX3:=Am (blk_kept HX2.out hg (by simp));have HG3:=Am (gT HG2.out hg);have HO3:=Am (own_kept HO2.out hg (by simp));clear hg HRC HX2 HG2 HO2 c0 c1 c2 c3 c4 c5 c6 c7
    by_cases hC0 : CC = 0
    · have HC0:=Am hC0
      have b1 : (CC != 0) = false:=by simp [hC0]
      clear hC0;go_upto_region 5 with (fail)
      have HA3:=Am (lit0 w3 (Nat.le_refl _));have HG4:=Am (gA w3 (.cells #[] 29) none);have hn64 : n ≤ 64:=by have h1:=HT0.out.le;have h2:=HN.out;omega
      go_wp2_with fail
      go_loopg [6,7] n (fun k v6 v7 wr => ∃ (j : Nat) (a : Value) (xs : List Int),a = v6 ∧ v7 = .int .i64 j ∧ Aside0 (j + k = n) ∧ j ≤ n ∧ Aside0 (xs = (ls.map Acc.us).take j) ∧ Aside0 (wr.ownsRow w3.heap.size 29 (Ei .u64).sz a j (flat (Ei .u64) xs)) ∧ Aside0 (Tn w3 wr (fun k => w3.heap.size ≤ k)))
      case atStart => exact ⟨0,_,[],rfl,rfl,⟨by omega⟩,by omega,⟨rfl⟩,HA3,⟨Tn.gb0 HG4.out _⟩⟩
      case round =>
        clear HA3 HG4;obtain ⟨j,a,xs,rfl,rfl,HD,hj,HXS,HA,HT⟩:=hrel
        cases gk with
        | zero =>
          obtain rfl : j = n:=by have:=HD.out;omega
          have HXF:=Am (show xs = ls.map Acc.us by rw [HXS.out,List.take_of_length_le (by rw [List.length_map,HN.out];exact Nat.le_refl _)]);have hxl : xs.length = j:=by rw [HXF.out,List.length_map];exact HN.out
          obtain ⟨B,bc,rfl,hB,hbc,-⟩:=own_open hxl HA.out;have hn0 : 0 < j:=by have h1:=HT0.out.pos;have h2:=HN.out;omega
          have HTw:=Am ((Tn.gb0 HG3.out (fun k => w.heap.size ≤ k)).trans' (HT.out.mono (fun i _ h => by have h2:=HG3.out.size;have h3 : w3.heap.size ≤ i:=h;show w.heap.size ≤ i;omega)));have HRr:=Am (accs_tn HR.out HTw.out);have HBC:=Am hbc;have HXr:=Am (blk_tn HX3.out HT.out (by show ¬ w3.heap.size ≤ g7;have:=blk_lt' HX3.out;omega));have HOr:=Am (own_tn HO3.out HT.out (fun k hk e => by have h1:=(HO3.out.lt k hk).2;have h2 : w3.heap.size ≤ k:=e;omega));have HNQ:=Am (show ∀ k,(Value.slice (some ⟨go,0,none⟩) 0 0).ownBlock = some k → (Value.slice B j bc).ownBlock ≠ some k from fun k h1 h2 => by
            have h3:=(HO3.out.lt k h1).2;have h4:=(HA.out.lt k h2).1
            omega)
          rw [HXF.out] at hB HA;have HBr:=Am hB;have HRO:=Am (root13_calls wr A j c ls HRr.out HC.out HT0.out);clear hxl hB hbc HXS HD HT HX3 HO3;go_wp2_with fail
          refine (HRO.out).mono ?_;rintro e w4 ⟨rfl,hg⟩;have HR4:=Am (HRr.out.gb hg);have HB4:=Am (HBr.out.gb hg);have HA4:=Am (own_kept HA.out hg (by simp));have HX4:=Am (blk_kept HXr.out hg (by simp));have HO4:=Am (own_kept HOr.out hg (by simp));have HT4:=Am (HTw.out.trans' (Tn.gb0 hg _));have HSU:=Am (show Calls Tryz.prog 45 #[.slice A j c,.slice B j bc,.int .i64 0] w4 _ from sum13_calls w4 A j c ls HR4.out HC.out HT0.out HUS.out B bc HB4.out HBC.out 0 hn0);clear hg HRO HRr HBr HA HXr HOr HTw;go_wp2_with fail
          refine (HSU.out).mono ?_;rintro e w5 ⟨rfl,hg⟩;obtain ⟨s,hs⟩ : ∃ s,s = sumV ls ((0 : Nat) : Int):=⟨_,rfl⟩;have HSE:=Am hs;rw [← hs];have HR5:=Am (HR4.out.gb hg);have HB5:=Am (HB4.out.gb hg);have HA5:=Am (own_kept HA4.out hg (by simp));have HX5:=Am (blk_kept HX4.out hg (by simp));have HO5:=Am (own_kept HO4.out hg (by simp));have HT5:=Am (HT4.out.trans' (Tn.gb0 hg _));clear hg hs HSU HR4 HB4 HA4 HX4 HO4 HT4;have c0:=cell_of (j:=0) HX5.out rfl;have c1:=cell_of (j:=1) HX5.out rfl;have c2:=cell_of (j:=2) HX5.out rfl;have c3:=cell_of (j:=3) HX5.out rfl;have c4:=cell_of (j:=4) HX5.out rfl;have c5:=cell_of (j:=5) HX5.out rfl;have c6:=cell_of (j:=6) HX5.out rfl;have c7:=cell_of (j:=7) HX5.out rfl;go_wp2_with fail
          refine (HRF.out w5).mono ?_;rintro e w6 ⟨rfl,hg⟩;have HR6:=Am (HR5.out.gb hg);have HB6:=Am (HB5.out.gb hg);have HA6:=Am (own_kept HA5.out hg (by simp));have HX6:=Am (blk_kept HX5.out hg (by simp));have HO6:=Am (own_kept HO5.out hg (by simp));have HT6:=Am (HT5.out.trans' (Tn.gb0 hg _));clear hg c0 c1 c2 c3 c4 c5 c6 c7 HR5 HB5 HA5 HX5 HO5 HT5;have HWV:=Am (show wholeV ls F = if s < F then F else s by unfold wholeV;rw [rd_sums (by omega) (by have:=HT0.out.pos;omega),HSE.out];rfl);have HSUU:=Am (show U s by rw [HSE.out];exact sumV_in HUS.out _);rcases Int.lt_or_le s F with hsf | hsf
          have b2 : decide (s < F) = true:=dT hsf;have c0:=cell_of (j:=0) HX6.out rfl;have c1:=cell_of (j:=1) HX6.out rfl;have c2:=cell_of (j:=2) HX6.out rfl;have c3:=cell_of (j:=3) HX6.out rfl;have c4:=cell_of (j:=4) HX6.out rfl;have c5:=cell_of (j:=5) HX6.out rfl;have c6:=cell_of (j:=6) HX6.out rfl;have c7:=cell_of (j:=7) HX6.out rfl;go_wp2_with fail
          refine (HRF.out w6).mono ?_;rintro e w7 ⟨rfl,hg⟩;have HR7:=Am (HR6.out.gb hg);have HB7:=Am (HB6.out.gb hg);have HA7:=Am (own_kept HA6.out hg (by simp));have HO7:=Am (own_kept HO6.out hg (by simp));have HT7:=Am (HT6.out.trans' (Tn.gb0 hg _));have HWE:=Am (show wholeV ls F = F by rw [HWV.out,if_pos hsf]);have HWU:=Am (show U (wholeV ls F) by rw [HWE.out];exact HFU.out);clear hg c0 c1 c2 c3 c4 c5 c6 c7 b2 hsf HR6 HB6 HA6 HO6 HT6 HX6;go_upto_region 12 with (fail)
          generalize hvw : Value.int IntKind.u64 F = vw;have HVW : vw = .int .u64 (wholeV ls F):=by rw [← hvw,HWE.out]
          clear hvw HWE;obtain ⟨wl,hwl⟩ : ∃ wl,wl = w7:=⟨_,rfl⟩;rw [← hwl] at HR7 HB7 HA7 HO7 HT7 ⊢;clear hwl w7
          rotate_left
          have b2 : decide (s < F) = false:=dF (by omega);obtain ⟨wl,hwl⟩ : ∃ wl,wl = w6:=⟨_,rfl⟩;rw [← hwl] at HR6 HB6 HA6 HO6 HT6 ⊢;have HR7:=HR6;have HB7:=HB6;have HA7:=HA6;have HO7:=HO6;have HT7:=HT6;have HWE:=Am (show wholeV ls F = s by rw [HWV.out,if_neg (by omega)]);have HWU:=Am (show U (wholeV ls F) by rw [HWE.out];exact HSUU.out);clear hwl hsf HR6 HB6 HA6 HO6 HT6 HX6;go_wp2_with fail
          generalize hvw : Value.int IntKind.u64 s = vw;have HVW : vw = .int .u64 (wholeV ls F):=by rw [← hvw,HWE.out]
          clear hvw HWE b2
          rotate_left
          all_goals
            obtain ⟨Wh,hWh⟩ : ∃ Wh,Wh = wholeV ls F:=⟨_,rfl⟩;have HWH:=Am hWh;rw [← hWh] at HVW HWU;subst HVW;clear hWh;have HAO:=Am HA7.out;go_loopg [5,9] j (fun k v5 v9 wr => ∃ (i : Nat) (b : Value) (ys : List Int),b = v5 ∧ v9 = .int .i64 i ∧ Aside0 (i + k = j) ∧ i ≤ j ∧ Aside0 (ys = (List.range i).map (fun q : Nat => effV ls Wh (q : Int))) ∧ Aside0 (wr.ownsRow w.heap.size 29 (Ei .u64).sz b i (flat (Ei .u64) ys)) ∧ Aside0 (∀ k,b.ownBlock = some k → (Value.slice B j bc).ownBlock ≠ some k) ∧ Aside0 (wr.ownsRow w3.heap.size 29 (Ei .u64).sz (.slice B j bc) j (flat (Ei .u64) (ls.map Acc.us))) ∧ Aside0 (Tn w wr (fun k => w.heap.size ≤ k)))
            case atStart => exact ⟨0,_,[],rfl,rfl,⟨by omega⟩,by omega,⟨rfl⟩,HO7,HNQ,HAO,HT7⟩
            case round =>
              clear HO7 HAO HT7 HA7 HB7 HR7;obtain ⟨i,b,ys,rfl,rfl,HDI,hi,HYS,HO,HNB,HAB,HT⟩:=hrel
              cases gk with
              | zero =>
                obtain rfl : i = j:=by have:=HDI.out;omega
                go_wp2;go_ret;refine ⟨gb_of_tn HT.out (fun k h => h),_,rfl,fun h => ?_,fun _ _ => ?_⟩
                · rcases h with h | h
                  · exact absurd HE0.out h
                  · exact absurd HC0.out h
                · have h1:=HO.out
                  rw [HYS.out] at h1;rw [HN.out,← HWH.out];unfold effsV;rw [HN.out];exact h1
              | succ d =>
                have hlt : i < j:=by have:=HDI.out;omega
                have hlt1 : decide ((i : Int) < (j : Int)) = true:=dT (by omega);have hji : (i : Int) < (j : Int):=by omega
                have HEC:=Am (eff13_calls wr A j c ls (accs_tn HR.out HT.out) HC.out HT0.out HUS.out B bc (own_rd (by rw [List.length_map];exact HN.out) HAB.out) HBC.out Wh HWU.out i hlt);obtain ⟨u,hu⟩ : ∃ u,u = effV ls Wh (i : Int):=⟨_,rfl⟩;rw [← hu] at HEC;have HYN:=Am (show (List.range (i + 1)).map (fun q : Nat => effV ls Wh (q : Int)) = ys ++ [u] by rw [List.range_succ,List.map_append,← HYS.out,hu];rfl);clear hu;go_wp2_with fail
                refine (HEC.out).mono ?_;rintro e w8 ⟨rfl,hg⟩;have HO9:=Am (own_kept (own_kept HO.out hg (by simp)) (gA w8 (.cells #[.int .u64 u] 29) none) (by simp));have HL9:=Am (show Rd (Ei .u64) (w8.alloc (.cells #[.int .u64 u] 29)) (some ⟨w8.heap.size,0,none⟩) 1 [u] from rd_lit (Ei .u64) w8 29 [u] (by simp));have HT9:=Am ((HT.out.trans' (Tn.gb0 hg _)).trans' (Tn.alloc w8 (.cells #[.int .u64 u] 29) _));have HA9:=Am (own_kept (own_kept HAB.out hg (by simp)) (gA w8 (.cells #[.int .u64 u] 29) none) (by simp));clear hg HEC;go_wp2_with (at_builtin;refine app_at (Ei .u64) w.heap.size rfl (.tmp 52) (.tmp 58) 42 29 (.int .u64 0) 8 rfl Tryz.underlying42 (by kernel_rfl) rfl (by decide) b i ys [u] ⟨w8.heap.size,0,none⟩ 1 1 rfl rfl HO9.out HL9.out HT9.out.size (by omega) ?_;intro v4 wx ho hg hat;have HOx:=Am ho;have HATx:=Am hat;have HTx:=Am (HT9.out.trans' (Tn.of_gb (F:=fun k => w.heap.size ≤ k) hg (fun k hk => (HO9.out.lt k hk).1)));have HAx:=Am (own_tn HA9.out (Tn.of_gb (F:=fun k => b.ownBlock = some k) hg (fun k hk => hk)) (fun k hk e => HNB.out k e hk));clear ho hg hat)
                go_roundg d
                case measure => omega
                case rel =>
                  refine ⟨i + 1,v4,ys ++ [u],rfl,by go_num,⟨by have:=HDI.out;omega⟩,by omega,⟨HYN.out.symm⟩,HOx,⟨fun k h1 h2 => ?_⟩,HAx,HTx⟩;rcases HATx.out with e | e
                  · rw [e] at h1;exact HNB.out k h1 h2
                  · rw [e] at h1
                    have h3:=(HA9.out.lt k h2).2;have h4:=oI h1;omega
        | succ d =>
          have hlt : j < n:=by have:=HD.out;omega
          have hlt1 : decide ((j : Int) < (n : Int)) = true:=dT (by omega);have hji : (j : Int) < (n : Int):=by omega
          have hn0 : 0 < n:=by omega
          obtain ⟨ad,hAd,-⟩:=HR.out.2.2 hn0;subst hAd;have HT0w:=Am ((Tn.gb0 HG3.out (fun k => w.heap.size ≤ k)).trans' (HT.out.mono (fun i _ h => by have h2:=HG3.out.size;have h3 : w3.heap.size ≤ i:=h;show w.heap.size ≤ i;omega)));have hcu:=us_cell (accs_tn HR.out HT0w.out) hlt;obtain ⟨u,hu⟩ : ∃ u,u = usV ls (j : Int):=⟨_,rfl⟩;rw [← hu] at hcu;have HXN:=Am (show (ls.map Acc.us).take (j + 1) = xs ++ [u] by
            rw [HXS.out,hu,List.take_add_one,← rd_us]
            congr 1
            have hl : j < (ls.map Acc.us).length:=by rw [List.length_map,HN.out];exact hlt
            rw [lG hl];simp [rd,List.getD_eq_getElem?_getD,lG hl])
          have HA3:=Am (own_kept HA.out (gA wr (.cells #[.int .u64 u] 29) none) (by simp));have HL3:=Am (show Rd (Ei .u64) (wr.alloc (.cells #[.int .u64 u] 29)) (some ⟨wr.heap.size,0,none⟩) 1 [u] from rd_lit (Ei .u64) wr 29 [u] (by simp));have HTa:=Am (HT.out.trans' (Tn.alloc wr (.cells #[.int .u64 u] 29) _));clear hu;go_wp2_with (at_builtin;refine app_at (Ei .u64) w3.heap.size rfl (.tmp 27) (.tmp 33) 42 29 (.int .u64 0) 8 rfl Tryz.underlying42 (by kernel_rfl) rfl (by decide) a j xs [u] ⟨wr.heap.size,0,none⟩ 1 1 rfl rfl HA3.out HL3.out HTa.out.size (by omega) ?_;intro v4 w4 ho hg hat;have HO4:=Am ho;have HT4:=Am (HTa.out.trans' (Tn.of_gb (F:=fun k => w3.heap.size ≤ k) hg (fun k hk => (HA3.out.lt k hk).1)));clear ho hg hat)
          go_roundg d
          case measure => omega
          case rel => exact ⟨j + 1,v4,xs ++ [u],rfl,by go_num,⟨by have:=HD.out;omega⟩,by omega,⟨HXN.out.symm⟩,HO4,HT4⟩
    · have HC0:=Am hC0
      have b1 : (CC != 0) = true:=by simp [hC0]
      clear hC0;go_wp2;go_ret;exact ⟨HG3.out,_,rfl,fun _ => HO3.out,fun _ h => absurd h HC0.out⟩
  · have HE0:=Am h0
    have b0 : (loadE ls == 0) = false:=by rw [beq_eq_false_iff_ne];exact h0
    rw [b0];clear b0 h0;go_wp2;go_ret;exact ⟨HG2.out,_,rfl,fun _ => HO2.out,fun h _ => absurd h HE0.out⟩
theorem rFactors_calls (w : World) (a0 a1 a2 a3 a4 a5 a6 a7 : Int) (A : Option Addr) (n c : Nat) (ls : List Acc) (hr : Rd Ec w A n ls) (hc : n ≤ c) (hok : AccOk ls) (hus : AccU ls) :
    Calls Tryz.prog 10 #[.agg #[.int .i64 a0,.int .i64 a1,.int .i64 a2,.int .i64 a3,.int .i64 a4,.int .i64 a5,.int .i64 a6,.int .i64 a7],.slice A n c] w (RLI w (checkV a0 a1 a2 a3 a4 a5 a6 a7) ls (factsV ls (wholeV ls (floorV a0 a1 a2 a3 a4 a5 a6 a7)))):=by
  have hlen:=hr.2.1;have HN:=Am hr.1;have HR:=Am hr;have HEF:=Am (fun (W : World) (h : Rd Ec W A n ls) => rEffective_calls W a0 a1 a2 a3 a4 a5 a6 a7 A n c ls h hc hok hus);have HSH:=Am (fun (W : World) (h : Rd Ec W A n ls) => rShares_calls W A n c ls h hc hok);obtain ⟨CC,hC⟩ : ∃ C,C = checkV a0 a1 a2 a3 a4 a5 a6 a7:=⟨_,rfl⟩;obtain ⟨F,hF⟩ : ∃ F,F = floorV a0 a1 a2 a3 a4 a5 a6 a7:=⟨_,rfl⟩;rw [← hC,← hF] at HEF ⊢;clear hr hc hok hus hC hF;go_enter Tryz.func10,Tryz.ntmps10;go_upto_region 2 with (fail)
  have e1:=gA w (.cells #[.int .i64 a0,.int .i64 a1,.int .i64 a2,.int .i64 a3,.int .i64 a4,.int .i64 a5,.int .i64 a6,.int .i64 a7] 23) none;have e2:=gA (w.alloc (.cells #[.int .i64 a0,.int .i64 a1,.int .i64 a2,.int .i64 a3,.int .i64 a4,.int .i64 a5,.int .i64 a6,.int .i64 a7] 23)) (.cells #[] 29) none;have HX1:=Am (blk_kept (heap_alloc_new w (.cells #[.int .i64 a0,.int .i64 a1,.int .i64 a2,.int .i64 a3,.int .i64 a4,.int .i64 a5,.int .i64 a6,.int .i64 a7] 23)) e2 (by simp));have HG1:=Am (gT e1 e2);have HO1:=Am (lit0 (w.alloc (.cells #[.int .i64 a0,.int .i64 a1,.int .i64 a2,.int .i64 a3,.int .i64 a4,.int .i64 a5,.int .i64 a6,.int .i64 a7] 23)) (B:=w.heap.size) (by simp only [World.size_alloc];omega));rw [World.size_alloc] at HO1;obtain ⟨go,hgo⟩ : ∃ g,g = w.heap.size + 1:=⟨_,rfl⟩;obtain ⟨g7,hg7⟩ : ∃ g,g = w.heap.size:=⟨_,rfl⟩;rw [← hgo] at HO1 ⊢;have HX1' : Aside0 (((w.alloc (.cells #[.int .i64 a0,.int .i64 a1,.int .i64 a2,.int .i64 a3,.int .i64 a4,.int .i64 a5,.int .i64 a6,.int .i64 a7] 23)).alloc (.cells #[] 29)).heap[g7]? = some (.cells #[.int .i64 a0,.int .i64 a1,.int .i64 a2,.int .i64 a3,.int .i64 a4,.int .i64 a5,.int .i64 a6,.int .i64 a7] 23 (0,0))):=⟨by rw [hg7];exact HX1.out⟩;rw [← hg7];clear e1 e2 hgo hg7 HX1;generalize (w.alloc (.cells #[.int .i64 a0,.int .i64 a1,.int .i64 a2,.int .i64 a3,.int .i64 a4,.int .i64 a5,.int .i64 a6,.int .i64 a7] 23)).alloc (.cells #[] 29) = w1 at HX1' HG1 HO1 ⊢;have HGO:=Am (show go < w1.heap.size from (HO1.out.lt go rfl).2);have HGB:=Am (show w.heap.size ≤ go from (HO1.out.lt go rfl).1);have c0:=cell_of (j:=0) HX1'.out rfl;have c1:=cell_of (j:=1) HX1'.out rfl;have c2:=cell_of (j:=2) HX1'.out rfl;have c3:=cell_of (j:=3) HX1'.out rfl;have c4:=cell_of (j:=4) HX1'.out rfl;have c5:=cell_of (j:=5) HX1'.out rfl;have c6:=cell_of (j:=6) HX1'.out rfl;have c7:=cell_of (j:=7) HX1'.out rfl;go_wp2_with fail
  refine (HEF.out w1 (HR.out.gb HG1.out)).mono ?_;rintro e w2 ⟨hg,ve,rfl,hE0,hE1⟩;have HG2:=Am (gT HG1.out hg);have HO2:=Am (own_kept HO1.out hg (by simp));have HEA:=Am hE0;have HEB:=Am hE1;clear hg hE0 hE1 HEF HX1' HO1 c0 c1 c2 c3 c4 c5 c6 c7;go_wp2_with fail
  refine (HSH.out w2 (HR.out.gb HG2.out)).mono ?_;rintro e w3 ⟨hg,v1,v2,rfl,hS0,hS1⟩;have HG3:=Am (gT HG2.out hg);have HG23:=Am hg;have HO3:=Am (own_kept HO2.out hg (by simp));have HSB:=Am hS1;clear hg hS0 hS1 HSH HO2
  by_cases h0 : loadE ls = 0 ∧ CC = 0
  · obtain ⟨h1,h2⟩:=h0
    have HE0:=Am h1;have HC0:=Am h2;have HT0:=Am (tree_of h1);have hn0 : 0 < n:=by have h1:=HT0.out.pos;have h2:=HN.out;omega
    have hlE : (effsV ls (wholeV ls F)).length = n:=by unfold effsV;rw [List.length_map,List.length_range];exact HN.out
    have hlN : (numsV ls).length = n:=by unfold numsV;rw [List.length_map,List.length_range];exact HN.out
    have hlD : (densV ls).length = n:=by unfold densV;rw [List.length_map,List.length_range];exact HN.out
    have hE:=HEB.out h1 h2;obtain ⟨hS1,hS2⟩:=HSB.out h1;rw [HN.out] at hE hS1 hS2;obtain ⟨ub,uc,rfl,-⟩:=own_at hlE hn0 hE;obtain ⟨nb,nc,rfl,hnc⟩:=own_at hlN hn0 hS1;obtain ⟨db,dc,rfl,hdc⟩:=own_at hlD hn0 hS2;have HUO2:=Am (own_kept hE HG23.out (by simp));have HNO:=Am hS1;have HDO:=Am hS2;have HBL:=Am (show nb < w3.heap.size ∧ db < w3.heap.size ∧ w2.heap.size ≤ nb ∧ w2.heap.size ≤ db ∧ w1.heap.size ≤ w2.heap.size ∧ w2.heap.size ≤ w3.heap.size from ⟨(hS1.lt nb rfl).2,(hS2.lt db rfl).2,(hS1.lt nb rfl).1,(hS2.lt db rfl).1,by have h1:=(hE.lt ub rfl);omega,by have h1:=(hS1.lt nb rfl);omega⟩);have HUBL:=Am (show ub < w3.heap.size from (HUO2.out.lt ub rfl).2);have HUBG:=Am (show w1.heap.size ≤ ub ∧ ub < w2.heap.size from hE.lt ub rfl);clear h1 h2 hE hS1 hS2;obtain ⟨Wh,hWh⟩ : ∃ Wh,Wh = wholeV ls F:=⟨_,rfl⟩;have HWE:=Am hWh;rw [← hWh] at HUO2 hlE;have HLE:=Am hlE;have HLN:=Am hlN;have HLD:=Am hlD;clear hWh HEA HEB HSB hlE hlN hlD hnc hdc;go_wp2_with fail
    go_loopg [5,9] n (fun k v5 v9 wr => ∃ (j : Nat) (fs : List Int) (ov : Value),ov = v5 ∧ v9 = .int .i64 j ∧ Aside0 (j + k = n) ∧ j ≤ n ∧ Aside0 (fs = (List.range j).map (fun i : Nat => factV ls Wh (i : Int))) ∧ Aside0 (wr.ownsRow w.heap.size 29 (Ei .u64).sz ov j (flat (Ei .u64) fs)) ∧ Aside0 (∀ k,ov.ownBlock = some k → k = go ∨ w3.heap.size ≤ k) ∧ Aside0 (Tn w3 wr (fun k => k = go ∨ w3.heap.size ≤ k)))
    case atStart => exact ⟨0,[],_,rfl,rfl,⟨by omega⟩,by omega,⟨rfl⟩,HO3,⟨fun k h => .inl (oI h).symm⟩,⟨Tn.refl _ _⟩⟩
    case round =>
      clear HO3;obtain ⟨j,fs,ov,rfl,rfl,HD,hj,HF,HO,HB,HT⟩:=hrel
      cases gk with
      | zero =>
        obtain rfl : j = n:=by have:=HD.out;omega
        go_wp2;go_ret;refine ⟨gb_of_tn ((Tn.gb0 HG3.out (fun k => w.heap.size ≤ k)).trans' (HT.out.mono (fun i _ h => by
          have h2:=HG3.out.size;have h4:=HGB.out;rcases h with h | h
          · show w.heap.size ≤ i;omega
          · show w.heap.size ≤ i;omega))) (fun k h => h),_,rfl,fun h => ?_,fun _ _ => ?_⟩
        · rcases h with h | h
          · exact absurd HE0.out h
          · exact absurd HC0.out h
        · have h1:=HO.out
          rw [HF.out] at h1;rw [← HWE.out];unfold factsV;rw [HN.out];exact h1
      | succ d =>
        have hlt : j < n:=by have:=HD.out;omega
        have hlt1 : decide ((j : Int) < (n : Int)) = true:=dT (by omega);have hji : (j : Int) < (n : Int):=by omega
        have h64 : n ≤ 64:=by have h1:=HT0.out.le;have h2:=HN.out;omega
        have hjl : j < ls.length:=by rw [HN.out];exact hlt
        obtain ⟨u,hu⟩ : ∃ u,u = effV ls Wh (j : Int):=⟨_,rfl⟩;obtain ⟨x,hx⟩ : ∃ x,x = (partV ls (j : Int)).1:=⟨_,rfl⟩;obtain ⟨y,hy⟩ : ∃ y,y = (partV ls (j : Int)).2:=⟨_,rfl⟩;obtain ⟨hv,hhv⟩ : ∃ hv,hv = halfV (expV u x y):=⟨_,rfl⟩;have HHV:=Am hhv;have HNEW:=Am (show (List.range (j + 1)).map (fun i : Nat => factV ls Wh (i : Int)) = fs ++ [hv] by rw [List.range_succ,List.map_append,← HF.out,hhv,hu,hx,hy];rfl);have hnp:=num_pos HT0.out j hjl;have HUU:=Am (show U u by rw [hu];exact eff_U _);have HUX:=Am (show U x by rw [hx];unfold U;omega);have HUY:=Am (show U y by rw [hy];exact den_U 4 _);have HXP:=Am (show 0 < x by rw [hx];omega);have HUE:=Am (expV_in HUU.out HUX.out HUY.out HXP.out);have HTo : ∀ b,b < w3.heap.size → go < b → ¬ (b = go ∨ w3.heap.size ≤ b):=fun b h h1 h2 => by omega
        have hb1 : go < ub:=by have h1:=HGO.out;have h2:=HUBG.out;omega
        have hb2 : go < nb:=by have h1:=HGO.out;have h2:=HBL.out;omega
        have hb3 : go < db:=by have h1:=HGO.out;have h2:=HBL.out;omega
        have hcu:=num_cell (own_kept (own_tn HUO2.out HT.out (fun k hk => by cases hk;exact HTo _ HUBL.out hb1)) (gb_drew wr none) (by simp)) hlt HLE.out;rw [show rd (effsV ls Wh) (j : Int) = u by rw [hu];exact rd_range hjl] at hcu;have hxn:=num_cell (own_kept (own_tn HNO.out HT.out (fun k hk => by cases hk;exact HTo _ HBL.out.1 hb2)) (gb_drew wr none) (by simp)) hlt HLN.out;have hyn:=num_cell (own_kept (own_tn HDO.out HT.out (fun k hk => by cases hk;exact HTo _ HBL.out.2.1 hb3)) (gb_drew wr none) (by simp)) hlt HLD.out;rw [show rd (numsV ls) (j : Int) = x by rw [hx];exact rd_range hjl] at hxn;rw [show rd (densV ls) (j : Int) = y by rw [hy];exact rd_range hjl] at hyn;have HCX:=Am hxn;have HCY:=Am hyn;have HCU:=Am hcu;have HOd:=Am (own_kept HO.out (gb_drew wr none) (by simp));have HTd:=Am (HT.out.trans' (Tn.drew wr _));have HNA:=Am (show ∀ k,ov.ownBlock = some k → k ≠ nb ∧ k ≠ db ∧ k ≠ ub from fun k hk => by
          have h1:=HB.out k hk;have h2:=HBL.out;have h3:=HUBL.out
          omega)
        have HZ3:=Am (show w.heap.size ≤ w3.heap.size from HG3.out.size);clear hu hx hy hhv hnp HTo hxn hyn hcu hb1 hb2 hb3;go_upto_region 7 with (fail)
        refine start_ (n:=18) (S:=fun w' => w'.cell? ⟨nb,j,none⟩ = some (.int .u64 x) ∧ w'.cell? ⟨db,j,none⟩ = some (.int .u64 y) ∧ w'.cell? ⟨ub,j,none⟩ = some (.int .u64 u)) (ds:=[]) #[nn,nn,nn,nn,nn,nn,nn,nn,nn,nn,nn,nn,nn,nn,nn,nn,nn,nn] (by kernel_rfl) rfl rfl ⟨HCX.out,HCY.out,HCU.out⟩ (fun hHeld => ?_);refine pu_ 0 (some 25) (bm 18 1) (by kernel_rfl) ?_;refine pu_ 1 (some 26) (bm 18 3) (by kernel_rfl) ?_;refine pu_ 2 (some 27) (bm 18 7) (by kernel_rfl) ?_;refine pu_ 3 (some 28) (bm 18 15) (by kernel_rfl) ?_;refine pu_ 5 (some 30) (bm 18 47) (by kernel_rfl) ?_;refine pu_ 6 (some 31) (bm 18 111) (by kernel_rfl) ?_;refine pu_ 7 (some 32) (bm 18 239) (by kernel_rfl) ?_;refine pu_ 9 (some 34) (bm 18 751) (by kernel_rfl) ?_;refine pu_ 10 (some 35) (bm 18 1775) (by kernel_rfl) ?_;refine pu_ 11 (some 36) (bm 18 3823) (by kernel_rfl) ?_;refine tk_ 4 (some 29) (bm 18 3839) (by kernel_rfl) hHeld ?_;refine tk_ 8 (some 33) (bm 18 4095) (by kernel_rfl) hHeld ?_;refine tk_ 12 (some 37) (bm 18 8191) (by kernel_rfl) hHeld ?_;refine one_ (i:=13) (N:=some 38) (bm 18 16383) rfl rfl (by kernel_rfl) (by decide) (fun K hK => ?_);refine goes_ Tryz.func24 (by kernel_rfl) rfl #[.int .u64 u,.int .u64 x,.int .u64 y,.bool true] (by rfl) rfl rfl (by simp only [List.map_toArray,List.map_cons,List.map_nil];try rfl) ?_;with_reducible refine ((exp13_calls _ u x y HUU.out HUX.out HUY.out HXP.out)).mono ?_
        rintro e w10 ⟨rfl,hg⟩;refine ⟨_,rfl,?_⟩;have HO10:=Am (own_kept HOd.out hg (by simp));have HT10:=Am (HTd.out.trans' (Tn.gb0 hg _));refine hK.out _ _ ⟨hg.cell hHeld.1 (by simp),hg.cell hHeld.2.1 (by simp),hg.cell hHeld.2.2 (by simp)⟩ (fun hHeld => ?_);clear hK K;refine norm_ (a':=?_) ?_ ?_
        rotate_left
        · show Act.put _ (some 38) _ = _
          simp only [NR];rfl
        refine one_ (i:=14) (N:=some 39) (bm 18 32767) rfl rfl (by kernel_rfl) (by decide) (fun K hK => ?_);refine goes_ Tryz.func23 (by kernel_rfl) rfl #[.int .u64 (expV u x y)] (by rfl) rfl rfl (by simp only [List.map_toArray,List.map_cons,List.map_nil];try rfl) ?_;with_reducible refine ((half07_calls _ _ HUE.out)).mono ?_
        rintro e w11 ⟨rfl,hg⟩;refine ⟨_,rfl,?_⟩;have HO11:=Am (own_kept HO10.out hg (by simp));have HT11:=Am (HT10.out.trans' (Tn.gb0 hg _));rw [← HHV.out];refine hK.out _ _ ⟨hg.cell hHeld.1 (by simp),hg.cell hHeld.2.1 (by simp),hg.cell hHeld.2.2 (by simp)⟩ (fun hHeld => ?_);clear hK K;refine norm_ (a':=?_) ?_ ?_
        rotate_left
        · show Act.put _ (some 39) _ = _
          simp only [NR];rfl
        refine one_ (i:=15) (N:=some 40) (bm 18 65535) rfl rfl (by kernel_rfl) (by decide) (fun K hK => ?_);refine value_ (w1:=?_) (v:=?_) (by rfl) rfl ?_ ?_
        rotate_left 2
        · go_simp
          constructor
          · rfl
          · rfl
        have HR6:=Am (own_kept HO11.out (gA _ (.cells #[.int .u64 hv] 29) none) (by simp));have HT6:=Am (HT11.out.trans' (Tn.alloc w11 (.cells #[.int .u64 hv] 29) _));have HL6:=Am (show Rd (Ei .u64) (w11.alloc (.cells #[.int .u64 hv] 29)) (some ⟨w11.heap.size,0,none⟩) 1 [hv] from rd_lit (Ei .u64) w11 29 [hv] (by simp));have HZ6:=Am HT6.out.size;refine hK.out _ _ ⟨(gA _ (.cells #[.int .u64 hv] 29) none).cell hHeld.1 (by simp),(gA _ (.cells #[.int .u64 hv] 29) none).cell hHeld.2.1 (by simp),(gA _ (.cells #[.int .u64 hv] 29) none).cell hHeld.2.2 (by simp)⟩ (fun hHeld => ?_);clear hK K;refine norm_ (a':=?_) ?_ ?_
        rotate_left
        · show Act.put _ (some 40) _ = _
          simp only [NR];rfl
        refine one_ (i:=16) (N:=some 41) (bm 18 131071) rfl rfl (by kernel_rfl) (by decide) (fun K hK => ?_);refine app_at_step (Ei .u64) (by rfl) rfl w.heap.size (.tmp 25) (.tmp 40) 42 29 (.int .u64 0) 8 rfl Tryz.underlying42 (by kernel_rfl) rfl (by decide) ov j fs [hv] _ 1 1 rfl rfl HR6.out HL6.out (Nat.le_trans HZ3.out HZ6.out) (by omega) ?_;intro v7 w7 ho hg hat;have HO7:=Am ho;have HAT7:=Am hat;have HT7:=Am (HT6.out.trans' (Tn.of_gb (F:=fun k => k = go ∨ w3.heap.size ≤ k) hg (fun k hk => HB.out k hk)));have HC7a:=Am (hg.cell hHeld.1 (fun e => (HNA.out nb e.symm).1 rfl));have HC7b:=Am (hg.cell hHeld.2.1 (fun e => (HNA.out db e.symm).2.1 rfl));have HC7c:=Am (hg.cell hHeld.2.2 (fun e => (HNA.out ub e.symm).2.2 rfl));clear ho hg hat;refine hK.out _ _ ⟨HC7a.out,HC7b.out,HC7c.out⟩ (fun hHeld => ?_);clear hK K;refine norm_ (a':=?_) ?_ ?_
        rotate_left
        · show Act.put _ (some 41) _ = _
          simp only [NR];rfl
        refine pu_ 17 (some 5) (bm 18 262143) (by kernel_rfl) ?_;refine done_ (by kernel_rfl) ?_;go_wp2_with fail
        go_roundg d
        case measure => omega
        case rel =>
          refine ⟨j + 1,fs ++ [hv],_,rfl,by go_num,⟨by have:=HD.out;omega⟩,by omega,⟨HNEW.out.symm⟩,HO7,⟨fun k hk => ?_⟩,HT7⟩;rcases HAT7.out with e | e
          · rw [e] at hk;exact HB.out k hk
          · rw [e] at hk
            obtain rfl:=oI hk;exact .inr HZ6.out
  · have HNE:=Am h0
    have hE:=HEA.out (by rcases Classical.em (loadE ls = 0) with h | h;exact .inr (fun h2 => h0 ⟨h,h2⟩);exact .inl h);obtain ⟨B,bc,rfl,-,-,-⟩:=own_open rfl hE;clear hE h0 HEA HEB HSB;go_wp2_with fail
    go_loopg [5,9] 0 (fun k v5 v9 wr => v5 = .slice (some ⟨go,0,none⟩) 0 0 ∧ v9 = .int .i64 0 ∧ k = 0 ∧ wr = w3)
    case atStart => exact ⟨rfl,rfl,rfl,rfl⟩
    case round =>
      obtain ⟨rfl,rfl,rfl,rfl⟩:=hrel;go_wp2;go_ret;exact ⟨HG3.out,_,rfl,fun _ => HO3.out,fun h1 h2 => absurd ⟨h1,h2⟩ HNE.out⟩
/-- The factors,or nothing. -/
def facL (C F : Int) (ls : List Acc) : List Int:=if loadE ls = 0 ∧ C = 0 then factsV ls (wholeV ls F) else []
theorem facL_len {C F : Int} {ls : List Acc} : (facL C F ls).length ≤ 64:=by
  unfold facL;split
  · rename_i h;unfold factsV;rw [List.length_map,List.length_range];exact (tree_of h.1).le
  · simp
theorem facL_U {C F : Int} {ls : List Acc} : ∀ x ∈ facL C F ls,U x:=by
  intro x hx;unfold facL at hx;split at hx
  · unfold factsV at hx
    obtain ⟨i,-,rfl⟩:=List.mem_map.1 hx;unfold U factV halfV
    have:=HH_le (expV (effV ls (wholeV ls F) (i : Int)) (partV ls (i : Int)).1 (partV ls (i : Int)).2).toNat;omega
  · cases hx
/-- A list of words is answered,of one's own. -/
def OwnU (w : World) (xs : List Int) (e : Ending) (w' : World) : Prop:=
  w.grownBy w' none ∧ ∃ v,e = .returned v ∧ w'.ownsRow w.heap.size 29 (Ei .u64).sz v xs.length (flat (Ei .u64) xs)
section
variable (w : World) (a0 a1 a2 a3 a4 a5 a6 a7 : Int) (A : Option Addr) (n c : Nat) (ls : List Acc) (hr : Rd Ec w A n ls) (hc : n ≤ c) (hok : AccOk ls) (hus : AccU ls)
include hr hc hok hus
theorem Factors_own (hL : LaidW w) : Calls Tryz.prog 17 #[.agg #[.int .i64 a0,.int .i64 a1,.int .i64 a2,.int .i64 a3,.int .i64 a4,.int .i64 a5,.int .i64 a6,.int .i64 a7],.slice A n c] w (OwnU w (facL (checkV a0 a1 a2 a3 a4 a5 a6 a7) (floorV a0 a1 a2 a3 a4 a5 a6 a7) ls)):=by
  refine (Factors_calls w hL a0 a1 a2 a3 a4 a5 a6 a7 A n c ls hr hc hok hus).mono ?_;rintro e w' ⟨hg,h⟩;rcases h with ⟨h0,rfl⟩ | ⟨h0,h1,v,rfl,h2⟩
  · refine ⟨hg,_,rfl,?_⟩
    rw [facL,if_neg (fun h => h0.elim (fun k => k h.1) (fun k => k h.2))];exact own_nil _ _ _ _
  · refine ⟨hg,_,rfl,?_⟩
    rw [facL,if_pos ⟨h0,h1⟩,show (factsV ls (wholeV ls _)).length = ls.length by unfold factsV;rw [List.length_map,List.length_range]];exact h2
theorem rFactors_own : Calls Tryz.prog 10 #[.agg #[.int .i64 a0,.int .i64 a1,.int .i64 a2,.int .i64 a3,.int .i64 a4,.int .i64 a5,.int .i64 a6,.int .i64 a7],.slice A n c] w (OwnU w (facL (checkV a0 a1 a2 a3 a4 a5 a6 a7) (floorV a0 a1 a2 a3 a4 a5 a6 a7) ls)):=by
  refine (rFactors_calls w a0 a1 a2 a3 a4 a5 a6 a7 A n c ls hr hc hok hus).mono ?_;rintro e w' ⟨hg,v,rfl,h1,h2⟩;refine ⟨hg,v,rfl,?_⟩
  by_cases h0 : loadE ls = 0 ∧ checkV a0 a1 a2 a3 a4 a5 a6 a7 = 0
  · rw [facL,if_pos h0,show (factsV ls (wholeV ls _)).length = ls.length by unfold factsV;rw [List.length_map,List.length_range]]
    exact h2 h0.1 h0.2
  · rw [facL,if_neg h0]
    exact h1 (by rcases Classical.em (loadE ls = 0) with h | h;exact .inr (fun h2 => h0 ⟨h,h2⟩);exact .inl h)
end
end Go.Proofs.YtodibpddlibneaaGreatDoor.T
namespace Go.Proofs.YtodibpddlibneaaGreatDoor.S
open Go.RowKit YtodibpddlibneaaGreatDoorW.PrintWords YtodibpddlibneaaGreatDoorW.PrintLast H
set_option linter.unusedVariables false
set_option linter.unusedSimpArgs false
/-- Two lists put together: the second one's head goes first where it is before the first one's. -/
def mergeL {α : Type} (lt : α → α → Bool) : List α → List α → List α
  | [],ys => ys
  | x :: xs,[] => x :: xs
  | x :: xs,y :: ys => if lt y x then y :: mergeL lt (x :: xs) ys else x :: mergeL lt xs (y :: ys)
termination_by xs ys => xs.length + ys.length
theorem mergeL_nil {α : Type} (lt : α → α → Bool) (xs : List α) : mergeL lt xs [] = xs:=by cases xs <;> simp [mergeL]
theorem mergeL_len {α : Type} (lt : α → α → Bool) : ∀ (k : Nat) (xs ys : List α),xs.length + ys.length = k → (mergeL lt xs ys).length = xs.length + ys.length
  | _,[],ys,_ => by simp [mergeL]
  | _,x :: xs,[],_ => by simp [mergeL]
  | 0,x :: xs,y :: ys,h => by simp at h
  | k + 1,x :: xs,y :: ys,h => by
    simp only [List.length_cons] at h;rw [mergeL];split
    · rw [List.length_cons,mergeL_len lt k (x :: xs) ys (by simp only [List.length_cons];omega)];simp only [List.length_cons];omega
    · rw [List.length_cons,mergeL_len lt k xs (y :: ys) (by simp only [List.length_cons];omega)];simp only [List.length_cons];omega
/-- Sorted by halves. -/
def sortL {α : Type} (lt : α → α → Bool) (l : List α) : List α:=if h : l.length < 2 then l else mergeL lt (sortL lt (l.take (l.length / 2))) (sortL lt (l.drop (l.length / 2)))
termination_by l.length
decreasing_by
  · rw [List.length_take];omega
  · rw [List.length_drop];omega
theorem sortL_len {α : Type} (lt : α → α → Bool) : ∀ (k : Nat) (l : List α),l.length ≤ k → (sortL lt l).length = l.length
  | 0,l,h => by rw [sortL,dif_pos (by omega)]
  | k + 1,l,h => by
    rw [sortL];split
    · rfl
    · rw [mergeL_len lt _ _ _ rfl,sortL_len lt k _ (by rw [List.length_take];omega),sortL_len lt k _ (by rw [List.length_drop];omega),List.length_take,List.length_drop]
      omega
theorem drop_cons {α : Type} {xs : List α} {x : α} (h : xs[0]? = some x) : ∃ r,xs = x :: r:=by
  cases xs with
  | nil => simp at h
  | cons y r => simp at h;subst h;exact ⟨r,rfl⟩
/-- A function value that is called: by its contract,as one step of a region. -/
theorem goesV_ {P : Program} {ops : Array Oper} {Q : Exit → Act → World → Prop} {oi : Oper} {N : Option Tmp} {a : Act} {w : World} {K : Act → World → Prop} {f : FuncId} {fn : Func} {x : Operand} {zs : Array Operand} {ts : Array TypeId} (hf : P.funcs[f]? = some fn) (hname : (fn.name == "runtime.NumGoroutine") = false) (hb : fn.body.isSome = true) (first caps args : Array Value)
    (hw : Region.wanted oi (yielded ops a.tmps) = true) (hN : oi.dst = N) (hop : oi.op = .call { callee:=.value x,args:=zs,argTypes:=ts }) (hx : a.eval x = .func (.func f) first caps) (hargs : first ++ zs.map a.eval ++ caps = args)
    (h : Calls P f args w fun e w' => ∃ v,e = .returned v ∧ K (a.put N v) w') : if Region.wanted oi (yielded ops a.tmps) = true then Oper.wp P oi a w K Q else K (a.put N undef) w:=by
  refine call_ f args hw hN ?_ h;have he:=enters_ hf hname hb args w;unfold execOp;simp [hop,resolve,Deferred.ofValue,invoke,hx,hargs,he]

/-- What is asked of the order that is handed in: it answers,and writes at most the block 'row'. -/
structure Order {α : Type} (P : Program) (f : FuncId) (caps : Array Value) (enc : α → Value) (lt : α → α → Bool) (row : Option Nat) (Inv : World → Prop) : Prop where
  call : ∀ w x y,Inv w → Calls P f (#[enc x,enc y] ++ caps) w fun e w' => e = .returned (.bool (lt x y)) ∧ Inv w' ∧ w.grownBy w' row
  keep : ∀ w w' r,Inv w → w.grownBy w' r → (∀ g,row = some g → r ≠ some g) → Inv w'

theorem cell_at {w : World} {g : Nat} {cs : Array Value} {t : TypeId} {fr : Nat × Nat} {j : Nat} {v : Value} (h : w.heap[g]? = some (.cells cs t fr)) (hj : cs[j]? = some v) : w.cell? ⟨g,j,none⟩ = some v:=by
  simp [World.cell?,h,hj]
theorem rd_at_zero {α : Type} {E : Enc α} {w w' : World} {A : Option Addr} {n : Nat} {xs : List α} {row : Option Nat} (h : Rd E w A n xs) (hg : w.grownBy w' row) (hne : ∀ ad,A = some ad → 0 < n → some ad.block ≠ row) : Rd E w' A n xs:=
  ⟨h.1,h.2.1,fun hn => by
    obtain ⟨ad,e,hc⟩:=h.2.2 hn;exact ⟨ad,e,fun i v hv => hg.cell (hc i v hv) (by rw [H.add_block];exact hne ad e hn)⟩⟩
/-- A slice that was there before a row of one's own was made. -/
theorem rd_own {α : Type} {E : Enc α} {w1 w2 : World} {A : Option Addr} {n : Nat} {xs : List α} {b e sz k : Nat} {v : Value} {zs : List Value} (h : Rd E w1 A n xs) (hb : ∀ ad,A = some ad → 0 < n → ad.block < b) (ho : w1.ownsRow b e sz v k zs) (hg : w1.grownBy w2 v.ownBlock) : Rd E w2 A n xs:=
  rd_at_zero h hg (fun ad ha hn he => by have h1:=hb ad ha hn;have h2:=(ho.lt ad.block he.symm).1;omega)
theorem rd_lt {α : Type} {E : Enc α} {w : World} {A : Option Addr} {n : Nat} {xs : List α} (h : Rd E w A n xs) : ∀ ad,A = some ad → 0 < n → ad.block < w.heap.size:=fun ad ha hn => by
  obtain ⟨ad',e,hc⟩:=h.2.2 hn;rw [ha] at e;cases e;obtain ⟨x,hx⟩ : ∃ x,(flat E xs)[0]? = some x:=by
    have : 0 < (flat E xs).length:=by rw [flat_len,h.1];exact Nat.mul_pos hn E.pos
    exact ⟨_,lG this⟩
  have:=World.block_lt_of_cell? _ _ (hc 0 x hx);rwa [H.add_block] at this
theorem own_not {w : World} {B e sz n : Nat} {v : Value} {xs : List Value} (h : w.ownsRow (B + 1) e sz v n xs) : some B ≠ v.ownBlock:=fun he => by
  have:=(h.lt B he.symm).1;omega
theorem own_row {w : World} {B e sz n : Nat} {v : Value} {xs : List Value} {row : Option Nat} (h : w.ownsRow (B + 1) e sz v n xs) (hr : ∀ g,row = some g → g < B) : ∀ g,row = some g → v.ownBlock ≠ some g:=fun g hg he => by
  have h1:=(h.lt g he).1;have h2:=hr g hg;omega
theorem gb_own {w w1 w2 : World} {row : Option Nat} {e sz n : Nat} {v : Value} {xs : List Value} {b : Nat} (h : w.grownBy w1 row) (ho : w1.ownsRow b e sz v n xs) (hg : w1.grownBy w2 v.ownBlock) (hb : w.heap.size ≤ b) : w.grownBy w2 row:=by
  cases hv : v.ownBlock with
  | none => rw [hv] at hg;exact gT h (gb_any hg row)
  | some g => rw [hv] at hg;exact gb_new h hg (by have:=(ho.lt g hv).1;omega)

theorem less_calls (w : World) (x y : Int) :
    Calls Tryz.prog 14 #[.int .i64 x,.int .i64 y] w fun e w' => e = .returned (.bool (decide (x < y))) ∧ w = w':=by
  go_enter Tryz.func14,Tryz.ntmps14;go_wp2;go_ret;exact ⟨rfl,rfl⟩

/-- A list of the call's own is answered;of what was there at most the row has turned. -/
def OwnI (w : World) (row : Option Nat) (Inv : World → Prop) (xs : List Int) (n : Nat) (e : Ending) (w' : World) : Prop:=∃ v,e = .returned v ∧ w'.ownsRow w.heap.size 3 1 v n (flat (Ei .i64) xs) ∧ w.grownBy w' row ∧ Inv w'

theorem merge_calls {f : FuncId} {fn : Func} {caps : Array Value} {lt : Int → Int → Bool} {row : Option Nat} {Inv : World → Prop} (hf : Tryz.prog.funcs[f]? = some fn) (hnm : (fn.name == "runtime.NumGoroutine") = false) (hbd : fn.body.isSome = true)
    (F : Order Tryz.prog f caps (fun x : Int => .int .i64 x) lt row Inv)
    (w : World) (A B : Option Addr) (n m c d : Nat) (xs ys : List Int) (hx : Rd (Ei .i64) w A n xs) (hy : Rd (Ei .i64) w B m ys) (hc : n ≤ c) (hd : m ≤ d) (hs : (n + m) * 8 ≤ 140737488355328)
    (hI : Inv w) (hrow : ∀ g,row = some g → g < w.heap.size) (hA : ∀ ad,A = some ad → 0 < n → some ad.block ≠ row) (hB : ∀ ad,B = some ad → 0 < m → some ad.block ≠ row) :
    Calls Tryz.prog 62 #[.agg #[.func (.func f) #[] caps],.slice A n c,.slice B m d] w (OwnI w row Inv (mergeL lt xs ys) (n + m)):=by
  have HX:=Am hx;have HY:=Am hy;have HF:=Am F;have HI:=Am hI;have HR:=Am hrow;have HNA:=Am hA;have HNB:=Am hB;clear hx hy F hI hrow hA hB;obtain ⟨i3,hi3,hz0,hz1,hz2⟩:=info_parts (show (Tryz.prog.info? 3).map (fun i => (i.zero,i.size,i.bytes)) = some (some (.int .i64 0),1,8) by kernel_rfl);have HI3:=Am hi3;have HZ0:=Am hz0;have HZ1:=Am hz1;have HZ2:=Am hz2;clear hi3 hz0 hz1 hz2;have HBX:=Am (heap_alloc_new w (.cells #[.func (.func f) #[] caps] 70));go_enter Tryz.func62,Tryz.ntmps62;go_wp2_with (at_make;refine wpList_make_own _ rfl _ _ 32 rfl (w.heap.size + 1) 3 i3 (.int .i64 0) 1 Tryz.underlying32 HI3.out HZ0.out HZ1.out .i64 .i64 _ (n + m) rfl rfl (by first | rfl | simp) (by rw [HZ2.out];omega) (by simp only [maxLen];omega) (by simp) ?_;intro w1 hown hg;have HO:=Am hown;have HG:=Am hg;clear hown hg)
  have HB1:=Am (blk_kept HBX.out HG.out (by simp));have HG1:=Am (gb_any (gT (gA w _ none) HG.out) row);have HV1:=Am (HF.out.keep _ _ none (HF.out.keep _ _ none HI.out (gA w (.cells #[.func (.func f) #[] caps] 70) none) (by simp)) HG.out (by simp));have HOa : Aside0 (w1.ownsRow (w.heap.size + 1) 3 1 (Value.slice (some { block:=w.heap.size + 1,off:=0 }) 0 (n + m)) 0 (flat (Ei .i64) [])):=⟨by rw [flat_nil];simpa using HO.out⟩;clear HO HG HBX HI;go_loopg [1,2,7] (n + m) (fun k v1 v2 v7 wr => ∃ (A' B' : Option Addr) (p q r c' d' : Nat) (xs' ys' os : List Int),v1 = .slice A' p c' ∧ v2 = .slice B' q d' ∧ Aside0 (p + q = k) ∧ Aside0 (r + p + q = n + m) ∧ Aside0 (os.length = r) ∧ Aside0 (p ≤ c' ∧ q ≤ d') ∧ Aside0 (Rd (Ei .i64) w A' p xs') ∧ Aside0 (Rd (Ei .i64) w B' q ys')
    ∧ Aside0 (∀ ad,A' = some ad → 0 < p → some ad.block ≠ row) ∧ Aside0 (∀ ad,B' = some ad → 0 < q → some ad.block ≠ row)
    ∧ Aside0 (os ++ mergeL lt xs' ys' = mergeL lt xs ys) ∧ Aside0 (wr.ownsRow (w.heap.size + 1) 3 1 v7 r (flat (Ei .i64) os)) ∧ Aside0 (w.grownBy wr row) ∧ Aside0 (Inv wr) ∧ Aside0 (wr.heap[w.heap.size]? = some (.cells #[.func (.func f) #[] caps] 70 (0,0))))
  case atStart => exact ⟨A,B,n,m,0,c,d,xs,ys,[],rfl,rfl,⟨rfl⟩,⟨by omega⟩,⟨rfl⟩,⟨⟨hc,hd⟩⟩,HX,HY,HNA,HNB,⟨rfl⟩,HOa,HG1,HV1,HB1⟩
  case round =>
    obtain ⟨A',B',p,q,r,c',d',xs',ys',os,rfl,rfl,HD,HS,HL,HC,HX',HY',HNA',HNB',HE,HO,HG,HV,HB⟩:=hrel;have hpq:=HS.out
    by_cases hp : 0 < p
    · have hp1 : decide (0 < p) = true:=dT hp
      have hp2 : decide ((0 : Int) < (p : Int)) = true:=dT (by omega)
      by_cases hq : 0 < q
      · have hq1 : decide (0 < q) = true:=dT hq
        have hq2 : decide ((0 : Int) < (q : Int)) = true:=dT (by omega);obtain ⟨bd,y,rfl,hy0,hcb⟩:=HY'.out.at_ 0 hq;obtain ⟨ad,x,rfl,hx0,hca⟩:=HX'.out.at_ 0 hp;obtain ⟨xr,rfl⟩:=drop_cons hx0;obtain ⟨yr,rfl⟩:=drop_cons hy0;have hcb' : w.cell? bd = some (.int .i64 y):=by simpa [Addr.add] using hcb 0 _ rfl
        have hca' : w.cell? ad = some (.int .i64 x):=by simpa [Addr.add] using hca 0 _ rfl
        have hny : some bd.block ≠ row:=HNB'.out bd rfl hq;have hnx : some ad.block ≠ row:=HNA'.out ad rfl hp;have hnb : Aside0 (some w.heap.size ≠ row):=⟨fun e => absurd (HR.out _ e.symm) (Nat.lt_irrefl _)⟩;have hrb : Aside0 (∀ k,row = some k → k < w.heap.size + 1):=⟨fun k e => Nat.lt_succ_of_lt (HR.out k e)⟩;have HN:=Am (And.intro hny hnx);have HWc:=Am (And.intro hcb' hca');have HK : Aside0 (wr.drew.cell? ⟨w.heap.size,0,none⟩ = some (.func (.func f) #[] caps) ∧ wr.drew.cell? bd = some (.int .i64 y) ∧ wr.drew.cell? ad = some (.int .i64 x)):=
          ⟨cell_at (blk_kept HB.out (gb_drew wr none) (by simp)) rfl,(gb_drew wr none).cell (HG.out.cell hcb' hny) (by simp),(gb_drew wr none).cell (HG.out.cell hca' hnx) (by simp)⟩
        have HGd:=Am (gT HG.out (gb_drew wr row));have HVd:=Am (HF.out.keep _ _ none HV.out (gb_drew wr none) (by simp));have HOd:=Am (own_kept HO.out (gb_drew wr none) (by simp));have HBd:=Am (blk_kept HB.out (gb_drew wr none) (by simp));clear hcb' hca' hny hnx hcb hca hx0 hy0 HG HV HO HB
        by_cases hlt : lt y x = true
        · have HLT:=Am hlt
          obtain ⟨A2,hcut,hrd,hbl⟩:=cut_at (P:=Tryz.prog) (Ei .i64) 32 3 .i64 Tryz.underlying32 HI3.out HZ1.out (some bd) q d' 1 (by omega);have hcut1 : ∀ W : World,(Instr.slice 32 (.slice (some bd) q d') (some (.int .i64 1)) none none).run Tryz.prog W = .ok (.slice A2 (q - 1) (d' - 1)) W:=fun W => hcut W
          have HR2:=Am (hrd _ _ (by have:=HC.out;omega) HY'.out);have HN2 : Aside0 (∀ ad,A2 = some ad → 0 < q - 1 → some ad.block ≠ row):=⟨fun z hz _ => by obtain ⟨a0,h1,h2⟩:=hbl z hz;rw [h2];exact HNB'.out a0 h1 (by omega)⟩;clear hcut hrd hbl;go_wp2_with fail
          refine start_ (n:=9) (S:=fun w' => w'.cell? ⟨w.heap.size,0,none⟩ = some (.func (.func f) #[] caps) ∧ w'.cell? bd = some (.int .i64 y) ∧ w'.cell? ad = some (.int .i64 x)) (ds:=[8]) #[nn,nn,nn,nn,nn,nn,nn,nn,nn] (by kernel_rfl) rfl rfl ⟨HK.out.1,HK.out.2.1,HK.out.2.2⟩ (fun hHeld => ?_);refine pu_ 0 (some 22) (bm 9 1) (by kernel_rfl) ?_;refine pu_ 2 (some 24) (bm 9 5) (by kernel_rfl) ?_;refine pu_ 3 (some 25) (bm 9 13) (by kernel_rfl) ?_;refine pu_ 5 (some 27) (bm 9 45) (by kernel_rfl) ?_;refine pu_ 6 (some 28) (bm 9 109) (by kernel_rfl) ?_;refine tk_ 1 (some 23) (bm 9 111) (by kernel_rfl) hHeld ?_;refine tk_ 4 (some 26) (bm 9 127) (by kernel_rfl) hHeld ?_;refine tk_ 7 (some 29) (bm 9 255) (by kernel_rfl) hHeld ?_;refine last_ (i:=8) (N:=some 30) (bm 9 511) rfl rfl (by kernel_rfl) (by decide) (fun K hK => ?_);refine goesV_ hf hnm hbd #[] caps (#[.int .i64 y,.int .i64 x] ++ caps) (by rfl) rfl rfl (by rfl) (by simp only [List.map_toArray,List.map_cons,List.map_nil];rfl) ?_;with_reducible refine (HF.out.call _ y x HVd.out).mono ?_
          rintro e w3 ⟨rfl,hv,hg⟩;rw [HLT.out];refine ⟨_,rfl,?_⟩;have HG3:=Am (gT HGd.out hg);have HV3:=Am hv;have HO3:=Am (own_kept HOd.out hg hrb.out);have HB3:=Am (blk_kept HBd.out hg hnb.out);clear hv hg HGd HVd HOd HBd;refine hK.out _ _ ?_;clear hK K;refine norm_ (a':=?_) ?_ ?_
          rotate_left
          · show Act.put _ (some 30) _ = _
            simp only [NR];rfl
          refine done_ (by kernel_rfl) ?_;have HK4:=Am ((gb_drew w3 none).cell (HG3.out.cell HWc.out.1 HN.out.1) (by simp));have HG3d:=Am (gT HG3.out (gb_drew w3 row));have HV3d:=Am (HF.out.keep _ _ none HV3.out (gb_drew w3 none) (by simp));have HO3d:=Am (own_kept HO3.out (gb_drew w3 none) (by simp));have HB3d:=Am (blk_kept HB3.out (gb_drew w3 none) (by simp));have hsz4 : Aside0 (w.heap.size + 1 ≤ (w3.drew.alloc (.cells #[.int .i64 y] 3)).heap.size):=⟨by have:=blk_lt' HB3d.out;simp at this ⊢;omega⟩;clear HG3 HV3 HO3 HB3;go_wp2_with fail
          refine start_ (n:=10) (S:=fun w' => w'.cell? bd = some (.int .i64 y)) (ds:=[5]) #[nn,nn,nn,nn,nn,nn,nn,nn,nn,nn] (by kernel_rfl) rfl rfl (HK4.out) (fun hHeld => ?_);refine pu_ 0 (some 31) (bm 10 1) (by kernel_rfl) ?_;refine pu_ 1 (some 32) (bm 10 3) (by kernel_rfl) ?_;refine pu_ 2 (some 33) (bm 10 7) (by kernel_rfl) ?_;refine pu_ 6 (some 37) (bm 10 71) (by kernel_rfl) ?_;refine pu_ 7 (some 38) (bm 10 199) (by kernel_rfl) ?_;refine tk_ 3 (some 34) (bm 10 207) (by kernel_rfl) hHeld ?_;refine one_ (i:=4) (N:=some 35) (bm 10 223) rfl rfl (by kernel_rfl) (by decide) (fun K hK => ?_);refine value_ (w1:=?_) (v:=?_) (by rfl) rfl ?_ ?_
          rotate_left 2
          · go_simp
            constructor
            · rfl
            · rfl
          have HO4:=Am (own_kept HO3d.out (gA _ (.cells #[.int .i64 y] 3) none) (by simp));have HG4:=Am (gT HG3d.out (gA _ (.cells #[.int .i64 y] 3) row));have HV4:=Am (HF.out.keep _ _ none HV3d.out (gA _ (.cells #[.int .i64 y] 3) none) (by simp));have HB4:=Am (blk_kept HB3d.out (gA _ (.cells #[.int .i64 y] 3) none) (by simp));have HL4:=Am (rd_lit (Ei .i64) w3.drew 3 [y] (by simp));clear HO3d HG3d HV3d HB3d;refine hK.out _ _ ((gA _ _ none).cell hHeld (by simp)) (fun hHeld => ?_);clear hK K;refine norm_ (a':=?_) ?_ ?_
          rotate_left
          · show Act.put _ (some 35) _ = _
            simp only [NR];rfl
          refine last_ (i:=5) (N:=some 36) (bm 10 255) rfl rfl (by kernel_rfl) (by decide) (fun K hK => ?_);refine app_step (Ei .i64) (by rfl) rfl (w.heap.size + 1) (.tmp 31) (.tmp 35) 32 3 (.int .i64 0) 8 rfl Tryz.underlying32 (by kernel_rfl) rfl (by decide) _ r os [y] _ 1 1 rfl rfl HL.out HO4.out HL4.out hsz4.out (by have:=HS.out;omega) ?_;intro v5 w5 ho hg hn;have HO5:=Am ho;have HG5:=Am (gb_own HG4.out HO4.out hg (by omega));have HV5:=Am (HF.out.keep _ _ _ HV4.out hg (own_row HO4.out HR.out));have HB5:=Am (blk_kept HB4.out hg (own_not HO4.out));clear ho hg hn HO4 HG4 HV4 HB4 HL4;refine hK.out _ _ ?_;clear hK K;refine norm_ (a':=?_) ?_ ?_
          rotate_left
          · show Act.put _ (some 36) _ = _
            simp only [NR];rfl
          refine pu_ 8 (some 7) (bm 10 511) (by kernel_rfl) ?_;refine pu_ 9 (some 2) (bm 10 1023) (by kernel_rfl) ?_;refine done_ (by kernel_rfl) ?_;go_wp2_with fail
          go_roundg (p + q - 1)
          case measure => have:=HD.out;omega
          case rel =>
            have hS:=HS.out;have hD:=HD.out;have hC:=HC.out;refine ⟨_,_,p,q - 1,r + 1,c',d' - 1,x :: xr,yr,os ++ [y],rfl,rfl,⟨by omega⟩,⟨by omega⟩,⟨by rw [List.length_append,HL.out];rfl⟩,⟨by omega⟩,HX',HR2,HNA',HN2,⟨?_⟩,HO5,HG5,HV5,HB5⟩;rw [← HE.out,mergeL,if_pos HLT.out,List.append_assoc];rfl
        · have hlt' : lt y x = false:=by simpa using hlt
          have HLT:=Am hlt';clear hlt;obtain ⟨A2,hcut,hrd,hbl⟩:=cut_at (P:=Tryz.prog) (Ei .i64) 32 3 .i64 Tryz.underlying32 HI3.out HZ1.out (some ad) p c' 1 (by omega);have hcut1 : ∀ W : World,(Instr.slice 32 (.slice (some ad) p c') (some (.int .i64 1)) none none).run Tryz.prog W = .ok (.slice A2 (p - 1) (c' - 1)) W:=fun W => hcut W
          have HR2:=Am (hrd _ _ (by have:=HC.out;omega) HX'.out);have HN2 : Aside0 (∀ ad,A2 = some ad → 0 < p - 1 → some ad.block ≠ row):=⟨fun z hz _ => by obtain ⟨a0,h1,h2⟩:=hbl z hz;rw [h2];exact HNA'.out a0 h1 (by omega)⟩;clear hcut hrd hbl;go_wp2_with fail
          refine start_ (n:=9) (S:=fun w' => w'.cell? ⟨w.heap.size,0,none⟩ = some (.func (.func f) #[] caps) ∧ w'.cell? bd = some (.int .i64 y) ∧ w'.cell? ad = some (.int .i64 x)) (ds:=[8]) #[nn,nn,nn,nn,nn,nn,nn,nn,nn] (by kernel_rfl) rfl rfl ⟨HK.out.1,HK.out.2.1,HK.out.2.2⟩ (fun hHeld => ?_);refine pu_ 0 (some 22) (bm 9 1) (by kernel_rfl) ?_;refine pu_ 2 (some 24) (bm 9 5) (by kernel_rfl) ?_;refine pu_ 3 (some 25) (bm 9 13) (by kernel_rfl) ?_;refine pu_ 5 (some 27) (bm 9 45) (by kernel_rfl) ?_;refine pu_ 6 (some 28) (bm 9 109) (by kernel_rfl) ?_;refine tk_ 1 (some 23) (bm 9 111) (by kernel_rfl) hHeld ?_;refine tk_ 4 (some 26) (bm 9 127) (by kernel_rfl) hHeld ?_;refine tk_ 7 (some 29) (bm 9 255) (by kernel_rfl) hHeld ?_;refine last_ (i:=8) (N:=some 30) (bm 9 511) rfl rfl (by kernel_rfl) (by decide) (fun K hK => ?_);refine goesV_ hf hnm hbd #[] caps (#[.int .i64 y,.int .i64 x] ++ caps) (by rfl) rfl rfl (by rfl) (by simp only [List.map_toArray,List.map_cons,List.map_nil];rfl) ?_;with_reducible refine (HF.out.call _ y x HVd.out).mono ?_
          rintro e w3 ⟨rfl,hv,hg⟩;rw [HLT.out];refine ⟨_,rfl,?_⟩;have HG3:=Am (gT HGd.out hg);have HV3:=Am hv;have HO3:=Am (own_kept HOd.out hg hrb.out);have HB3:=Am (blk_kept HBd.out hg hnb.out);clear hv hg HGd HVd HOd HBd;refine hK.out _ _ ?_;clear hK K;refine norm_ (a':=?_) ?_ ?_
          rotate_left
          · show Act.put _ (some 30) _ = _
            simp only [NR];rfl
          refine done_ (by kernel_rfl) ?_;have HK4:=Am ((gb_drew w3 none).cell (HG3.out.cell HWc.out.2 HN.out.2) (by simp));have HG3d:=Am (gT HG3.out (gb_drew w3 row));have HV3d:=Am (HF.out.keep _ _ none HV3.out (gb_drew w3 none) (by simp));have HO3d:=Am (own_kept HO3.out (gb_drew w3 none) (by simp));have HB3d:=Am (blk_kept HB3.out (gb_drew w3 none) (by simp));have hsz4 : Aside0 (w.heap.size + 1 ≤ (w3.drew.alloc (.cells #[.int .i64 x] 3)).heap.size):=⟨by have:=blk_lt' HB3d.out;simp at this ⊢;omega⟩;clear HG3 HV3 HO3 HB3;go_wp2_with fail
          refine start_ (n:=10) (S:=fun w' => w'.cell? ad = some (.int .i64 x)) (ds:=[5]) #[nn,nn,nn,nn,nn,nn,nn,nn,nn,nn] (by kernel_rfl) rfl rfl (HK4.out) (fun hHeld => ?_);refine pu_ 0 (some 39) (bm 10 1) (by kernel_rfl) ?_;refine pu_ 1 (some 40) (bm 10 3) (by kernel_rfl) ?_;refine pu_ 2 (some 41) (bm 10 7) (by kernel_rfl) ?_;refine pu_ 6 (some 45) (bm 10 71) (by kernel_rfl) ?_;refine pu_ 7 (some 46) (bm 10 199) (by kernel_rfl) ?_;refine tk_ 3 (some 42) (bm 10 207) (by kernel_rfl) hHeld ?_;refine one_ (i:=4) (N:=some 43) (bm 10 223) rfl rfl (by kernel_rfl) (by decide) (fun K hK => ?_);refine value_ (w1:=?_) (v:=?_) (by rfl) rfl ?_ ?_
          rotate_left 2
          · go_simp
            constructor
            · rfl
            · rfl
          have HO4:=Am (own_kept HO3d.out (gA _ (.cells #[.int .i64 x] 3) none) (by simp));have HG4:=Am (gT HG3d.out (gA _ (.cells #[.int .i64 x] 3) row));have HV4:=Am (HF.out.keep _ _ none HV3d.out (gA _ (.cells #[.int .i64 x] 3) none) (by simp));have HB4:=Am (blk_kept HB3d.out (gA _ (.cells #[.int .i64 x] 3) none) (by simp));have HL4:=Am (rd_lit (Ei .i64) w3.drew 3 [x] (by simp));clear HO3d HG3d HV3d HB3d;refine hK.out _ _ ((gA _ _ none).cell hHeld (by simp)) (fun hHeld => ?_);clear hK K;refine norm_ (a':=?_) ?_ ?_
          rotate_left
          · show Act.put _ (some 43) _ = _
            simp only [NR];rfl
          refine last_ (i:=5) (N:=some 44) (bm 10 255) rfl rfl (by kernel_rfl) (by decide) (fun K hK => ?_);refine app_step (Ei .i64) (by rfl) rfl (w.heap.size + 1) (.tmp 39) (.tmp 43) 32 3 (.int .i64 0) 8 rfl Tryz.underlying32 (by kernel_rfl) rfl (by decide) _ r os [x] _ 1 1 rfl rfl HL.out HO4.out HL4.out hsz4.out (by have:=HS.out;omega) ?_;intro v5 w5 ho hg hn;have HO5:=Am ho;have HG5:=Am (gb_own HG4.out HO4.out hg (by omega));have HV5:=Am (HF.out.keep _ _ _ HV4.out hg (own_row HO4.out HR.out));have HB5:=Am (blk_kept HB4.out hg (own_not HO4.out));clear ho hg hn HO4 HG4 HV4 HB4 HL4;refine hK.out _ _ ?_;clear hK K;refine norm_ (a':=?_) ?_ ?_
          rotate_left
          · show Act.put _ (some 44) _ = _
            simp only [NR];rfl
          refine pu_ 8 (some 7) (bm 10 511) (by kernel_rfl) ?_;refine pu_ 9 (some 1) (bm 10 1023) (by kernel_rfl) ?_;refine done_ (by kernel_rfl) ?_;go_wp2_with fail
          go_roundg (p + q - 1)
          case measure => have:=HD.out;omega
          case rel =>
            have hS:=HS.out;have hD:=HD.out;have hC:=HC.out;refine ⟨_,_,p - 1,q,r + 1,c' - 1,d',xr,y :: yr,os ++ [x],rfl,rfl,⟨by omega⟩,⟨by omega⟩,⟨by rw [List.length_append,HL.out];rfl⟩,⟨by omega⟩,HR2,HY',HN2,HNB',⟨?_⟩,HO5,HG5,HV5,HB5⟩;rw [← HE.out,mergeL,if_neg (by rw [HLT.out];decide),List.append_assoc];rfl
      · obtain rfl : q = 0:=by omega
        have hF : os ++ xs' ++ ys' = mergeL lt xs ys:=by
          obtain rfl : ys' = []:=List.eq_nil_of_length_eq_zero HY'.out.1;rw [← HE.out,mergeL_nil,List.append_nil]
        have HF2:=Am hF;have hlb:=HL.out;have HYo : Aside0 (∀ ad,B' = some ad → 0 < 0 → ad.block < w.heap.size + 1):=⟨fun ad h1 h2 => Nat.lt_succ_of_lt (rd_lt HY'.out ad h1 h2)⟩;have HXr:=Am (rd_at_zero HX'.out HG.out HNA'.out);have HYr:=Am (rd_at_zero HY'.out HG.out HNB'.out);have HSZ:=Am (blk_lt' HB.out);clear hF hlb;go_wp2_with (first | (at_builtin;refine app (Ei .i64) (w.heap.size + 1) rfl (.tmp 47) (.tmp 48) 32 3 (.int .i64 0) 8 rfl Tryz.underlying32 (by kernel_rfl) rfl (by decide) _ r os xs' _ p _ rfl rfl HL.out HO.out HXr.out HSZ.out (by have:=HS.out;omega) ?_;intro v5 w5 ho hg hn;have HO5:=Am ho;have HG5:=Am (gb_own HG.out HO.out hg (by omega));have HV5:=Am (HF.out.keep _ _ _ HV.out hg (own_row HO.out HR.out));have HSZ5:=Am (Nat.lt_of_lt_of_le HSZ.out hg.size);have HY5:=Am (rd_own HYr.out HYo.out HO.out hg);clear ho hg hn HO HG HV HB HSZ HXr HYr) | (at_builtin;refine app (Ei .i64) (w.heap.size + 1) rfl (.tmp 49) (.tmp 50) 32 3 (.int .i64 0) 8 rfl Tryz.underlying32 (by kernel_rfl) rfl (by decide) _ (r + p) (os ++ xs') ys' _ 0 _ rfl rfl (by rw [List.length_append,HL.out,HX'.out.1]) HO5.out HY5.out HSZ5.out (by have:=HS.out;omega) ?_;intro v6 w6 ho hg hn;have HO6:=Am ho;have HG6:=Am (gb_own HG5.out HO5.out hg (by omega));have HV6:=Am (HF.out.keep _ _ _ HV5.out hg (own_row HO5.out HR.out));clear ho hg hn HO5 HG5 HV5 HSZ5 HY5))
        go_ret;refine ⟨_,rfl,?_,HG6.out,HV6.out⟩;have h6:=own_mono HO6.out (Nat.le_succ _);rw [HF2.out,show r + p + 0 = n + m by have:=HS.out;omega] at h6;exact h6
    · obtain rfl : p = 0:=by omega
      have hF : os ++ xs' ++ ys' = mergeL lt xs ys:=by
        obtain rfl : xs' = []:=List.eq_nil_of_length_eq_zero HX'.out.1;rw [← HE.out,List.append_nil];simp [mergeL]
      have HF2:=Am hF;have hlb:=HL.out;have HYo : Aside0 (∀ ad,B' = some ad → 0 < q → ad.block < w.heap.size + 1):=⟨fun ad h1 h2 => Nat.lt_succ_of_lt (rd_lt HY'.out ad h1 h2)⟩;have HXr:=Am (rd_at_zero HX'.out HG.out HNA'.out);have HYr:=Am (rd_at_zero HY'.out HG.out HNB'.out);have HSZ:=Am (blk_lt' HB.out);clear hF hlb;go_wp2_with (first | (at_builtin;refine app (Ei .i64) (w.heap.size + 1) rfl (.tmp 47) (.tmp 48) 32 3 (.int .i64 0) 8 rfl Tryz.underlying32 (by kernel_rfl) rfl (by decide) _ r os xs' _ 0 _ rfl rfl HL.out HO.out HXr.out HSZ.out (by have:=HS.out;omega) ?_;intro v5 w5 ho hg hn;have HO5:=Am ho;have HG5:=Am (gb_own HG.out HO.out hg (by omega));have HV5:=Am (HF.out.keep _ _ _ HV.out hg (own_row HO.out HR.out));have HSZ5:=Am (Nat.lt_of_lt_of_le HSZ.out hg.size);have HY5:=Am (rd_own HYr.out HYo.out HO.out hg);clear ho hg hn HO HG HV HB HSZ HXr HYr) | (at_builtin;refine app (Ei .i64) (w.heap.size + 1) rfl (.tmp 49) (.tmp 50) 32 3 (.int .i64 0) 8 rfl Tryz.underlying32 (by kernel_rfl) rfl (by decide) _ (r + 0) (os ++ xs') ys' _ q _ rfl rfl (by rw [List.length_append,HL.out,HX'.out.1]) HO5.out HY5.out HSZ5.out (by have:=HS.out;omega) ?_;intro v6 w6 ho hg hn;have HO6:=Am ho;have HG6:=Am (gb_own HG5.out HO5.out hg (by omega));have HV6:=Am (HF.out.keep _ _ _ HV5.out hg (own_row HO5.out HR.out));clear ho hg hn HO5 HG5 HV5 HSZ5 HY5))
      go_ret;refine ⟨_,rfl,?_,HG6.out,HV6.out⟩;have h6:=own_mono HO6.out (Nat.le_succ _);rw [HF2.out,show r + 0 + q = n + m by have:=HS.out;omega] at h6;exact h6

theorem sort_small {f : FuncId} {fn : Func} {caps : Array Value} {lt : Int → Int → Bool} {row : Option Nat} {Inv : World → Prop} (hf : Tryz.prog.funcs[f]? = some fn) (hnm : (fn.name == "runtime.NumGoroutine") = false) (hbd : fn.body.isSome = true)
    (F : Order Tryz.prog f caps (fun x : Int => .int .i64 x) lt row Inv)
    (w : World) (A : Option Addr) (n c : Nat) (xs : List Int) (hx : Rd (Ei .i64) w A n xs) (hI : Inv w) (h2 : n < 2) :
    Calls Tryz.prog 33 #[.agg #[.func (.func f) #[] caps],.slice A n c] w (OwnI w row Inv (sortL lt xs) n):=by
  have HX:=Am hx;have HF:=Am F;have HI:=Am hI;clear hx F hI;have hb1 : decide (n < 2) = true:=dT h2;have hb2 : decide ((n : Int) < 2) = true:=dT (by omega);have HE:=Am (show sortL lt xs = xs by rw [sortL,dif_pos (by rw [HX.out.1];exact h2)]);have HX1:=Am (rd_alloc HX.out (.cells #[.func (.func f) #[] caps] 70));have HO0 : Aside0 ((w.alloc (.cells #[.func (.func f) #[] caps] 70)).ownsRow w.heap.size 3 1 (.slice none 0 0) 0 (flat (Ei .i64) [])):=⟨own_nil _ _ _ _⟩;have HI1:=Am (HF.out.keep _ _ none HI.out (gA w (.cells #[.func (.func f) #[] caps] 70) none) (by simp));go_enter Tryz.func33,Tryz.ntmps33;go_wp2_with (at_builtin;refine app (Ei .i64) w.heap.size rfl (.const (.slice none 0 0)) (.tmp 9) 32 3 (.int .i64 0) 8 rfl Tryz.underlying32 (by kernel_rfl) rfl (by decide) _ 0 [] xs _ n _ rfl rfl rfl HO0.out HX1.out (by simp) (by omega) ?_;intro v5 w5 ho hg hn;have HO5:=Am ho;have HG5:=Am (gT (gA w (.cells #[.func (.func f) #[] caps] 70) none) hg);have HV5:=Am (HF.out.keep _ _ _ HI1.out hg (fun g _ => by show (none : Option Nat) ≠ some g;simp));clear ho hg hn)
  go_ret;refine ⟨_,rfl,?_,gb_any HG5.out row,HV5.out⟩;have h5:=HO5.out;rw [List.nil_append,Nat.zero_add] at h5;rw [HE.out];exact h5

theorem sort_calls {f : FuncId} {fn : Func} {caps : Array Value} {lt : Int → Int → Bool} {row : Option Nat} {Inv : World → Prop} (hf : Tryz.prog.funcs[f]? = some fn) (hnm : (fn.name == "runtime.NumGoroutine") = false) (hbd : fn.body.isSome = true)
    (F : Order Tryz.prog f caps (fun x : Int => .int .i64 x) lt row Inv) : ∀ (k : Nat)
    (w : World) (A : Option Addr) (n c : Nat) (xs : List Int) (hx : Rd (Ei .i64) w A n xs) (hc : n ≤ c) (hs : n * 8 ≤ 140737488355328)
    (hI : Inv w) (hrow : ∀ g,row = some g → g < w.heap.size) (hA : ∀ ad,A = some ad → 0 < n → some ad.block ≠ row),n ≤ k →
    Calls Tryz.prog 33 #[.agg #[.func (.func f) #[] caps],.slice A n c] w (OwnI w row Inv (sortL lt xs) n):=by
  intro k
  induction k with
  | zero => exact fun w A n c xs hx hc hs hI hrow hA hk => sort_small hf hnm hbd F w A n c xs hx hI (by omega)
  | succ k ih =>
    intro w A n c xs hx hc hs hI hrow hA hk;have HX:=Am hx;have HF:=Am F;have HI:=Am hI;have HR:=Am hrow;have HNA:=Am hA;have IH:=Am ih;clear hx F hI hrow hA ih;have HBX:=Am (heap_alloc_new w (.cells #[.func (.func f) #[] caps] 70))
    by_cases h2 : n < 2
    · exact sort_small hf hnm hbd HF.out w A n c xs HX.out HI.out h2
    · have hb1 : decide (n < 2) = false:=dF h2
      have hb2 : decide ((n : Int) < 2) = false:=dF (by omega);obtain ⟨h,hh⟩ : ∃ h,h = n / 2:=⟨_,rfl⟩;have hh1 : 1 ≤ h:=by omega
      have hh2 : h < n:=by omega
      have hdiv : (n : Int) / 2 = (h : Int):=by omega
      have HE:=Am (show sortL lt xs = mergeL lt (sortL lt (xs.take h)) (sortL lt (xs.drop h)) by rw [sortL,dif_neg (by rw [HX.out.1];exact h2),HX.out.1,← hh]);clear hh;obtain ⟨i3,hi3,hz0,hz1,hz2⟩:=info_parts (show (Tryz.prog.info? 3).map (fun i => (i.zero,i.size,i.bytes)) = some (some (.int .i64 0),1,8) by kernel_rfl);have hcut:=cut_to (P:=Tryz.prog) 32 3 .i64 Tryz.underlying32 hi3 A n c (h : Int) (by omega) (by omega) hc;rw [Int.toNat_natCast] at hcut;obtain ⟨A2,hcut2,hrd,hbl⟩:=cut_at (P:=Tryz.prog) (Ei .i64) 32 3 .i64 Tryz.underlying32 hi3 hz1 A n c h (by omega);have hnb : Aside0 (some w.heap.size ≠ row):=⟨fun e => absurd (HR.out _ e.symm) (Nat.lt_irrefl _)⟩;have HGd:=Am (gb_any (gT (gA w (.cells #[.func (.func f) #[] caps] 70) none) (gb_drew _ none)) row);have HVd:=Am (HF.out.keep _ _ none (HF.out.keep _ _ none HI.out (gA w (.cells #[.func (.func f) #[] caps] 70) none) (by simp)) (gb_drew _ none) (by simp));have HBd:=Am (blk_kept HBX.out (gb_drew _ none) (by simp));have HXd:=Am ((rd_alloc HX.out (.cells #[.func (.func f) #[] caps] 70)).gb (gb_drew _ none));have HTd:=Am (HXd.out.take_ h (by omega));have HDd:=Am (hrd _ _ hc HXd.out);have HND : Aside0 (∀ ad,A2 = some ad → 0 < n - h → some ad.block ≠ row):=⟨fun z hz _ => by obtain ⟨a0,h1,h2⟩:=hbl z hz;rw [h2];exact HNA.out a0 h1 (by omega)⟩;have HL1:=Am (show (sortL lt (xs.take h)).length = h by rw [sortL_len lt _ _ (Nat.le_refl _),HTd.out.1]);have HL2:=Am (show (sortL lt (xs.drop h)).length = n - h by rw [sortL_len lt _ _ (Nat.le_refl _),HDd.out.1]);have HC1:=Am (IH.out _ A h c (xs.take h) HTd.out (by omega) (by omega) HVd.out (fun g hg => Nat.lt_of_lt_of_le (HR.out g hg) HGd.out.size) (fun ad h1 h2 => HNA.out ad h1 (by omega)) (by omega));clear hi3 hz0 hz1 hz2 hrd hbl HI HBX;go_enter Tryz.func33,Tryz.ntmps33;go_wp2_with fail
      refine start_ (n:=13) (S:=fun w' => w'.cell? ⟨w.heap.size,0,none⟩ = some (.func (.func f) #[] caps)) (ds:=[]) #[nn,nn,nn,nn,nn,nn,nn,nn,nn,nn,nn,nn,nn] (by kernel_rfl) rfl rfl (cell_at HBd.out rfl) (fun hHeld => ?_);refine pu_ 2 (some 16) (bm 13 4) (by kernel_rfl) ?_;refine pu_ 3 (some 17) (bm 13 12) (by kernel_rfl) ?_;refine pu_ 4 (some 18) (bm 13 28) (by kernel_rfl) ?_;refine pu_ 7 (some 21) (bm 13 156) (by kernel_rfl) ?_;refine pu_ 8 (some 22) (bm 13 412) (by kernel_rfl) ?_;refine pu_ 9 (some 23) (bm 13 924) (by kernel_rfl) ?_;refine tk_ 0 (some 14) (bm 13 925) (by kernel_rfl) hHeld ?_;refine tk_ 1 (some 15) (bm 13 927) (by kernel_rfl) hHeld ?_;refine tk_ 6 (some 20) (bm 13 991) (by kernel_rfl) hHeld ?_;refine one_ (i:=5) (N:=some 19) (bm 13 1023) rfl rfl (by kernel_rfl) (by decide) (fun K hK => ?_);refine goes_ Tryz.func33 (by kernel_rfl) rfl #[.agg #[.func (.func f) #[] caps],.slice A h c] (by rfl) rfl rfl (by simp only [List.map_toArray,List.map_cons,List.map_nil];try rfl) ?_;with_reducible refine (HC1.out).mono ?_
      rintro e w3 ⟨v3,rfl,ho,hg,hv⟩;obtain ⟨A3,c3,rfl,hr,hc3,ha⟩:=own_open HL1.out ho;refine ⟨_,rfl,?_⟩;have HG3:=Am (gT HGd.out hg);have HV3:=Am hv;have HB3:=Am (blk_kept HBd.out hg hnb.out);have HR3:=Am hr;have HC3:=Am hc3;have HA3:=Am ha;have HD3:=Am (rd_at_zero HDd.out hg HND.out);have HC2:=Am (IH.out w3 A2 (n - h) (c - h) (xs.drop h) HD3.out (by omega) (by omega) HV3.out (fun g hg => Nat.lt_of_lt_of_le (HR.out g hg) HG3.out.size) HND.out (by omega));clear ho hg hv hr hc3 ha HGd HVd HBd HDd HC1;refine hK.out _ _ (cell_at HB3.out rfl) (fun hHeld => ?_);clear hK K;refine norm_ (a':=?_) ?_ ?_
      rotate_left
      · show Act.put _ (some 19) _ = _
        simp only [NR];rfl
      refine one_ (i:=10) (N:=some 24) (bm 13 2047) rfl rfl (by kernel_rfl) (by decide) (fun K hK => ?_);refine goes_ Tryz.func33 (by kernel_rfl) rfl #[.agg #[.func (.func f) #[] caps],.slice A2 (n - h) (c - h)] (by rfl) rfl rfl (by simp only [List.map_toArray,List.map_cons,List.map_nil];try rfl) ?_;with_reducible refine (HC2.out).mono ?_
      rintro e w4 ⟨v4,rfl,ho,hg,hv⟩;obtain ⟨A4,c4,rfl,hr,hc4,ha⟩:=own_open HL2.out ho;refine ⟨_,rfl,?_⟩;have HN3 : Aside0 (∀ ad,A3 = some ad → 0 < h → some ad.block ≠ row):=⟨fun ad h1 _ e => absurd (HA3.out ad h1) (by have:=HR.out _ e.symm;simp;omega)⟩;have HN4 : Aside0 (∀ ad,A4 = some ad → 0 < n - h → some ad.block ≠ row):=⟨fun ad h1 _ e => absurd (ha ad h1) (by have h2:=HR.out _ e.symm;have h3:=HG3.out.size;omega)⟩;have HG4:=Am (gT HG3.out hg);have HV4:=Am hv;have HB4:=Am (blk_kept HB3.out hg hnb.out);have HR4:=Am hr;have HC4:=Am hc4;have HR34:=Am (rd_at_zero HR3.out hg HN3.out);have HCm:=Am (merge_calls hf hnm hbd HF.out w4 A3 A4 h (n - h) c3 c4 _ _ HR34.out HR4.out HC3.out hc4 (by omega) hv (fun g hg => Nat.lt_of_lt_of_le (HR.out g hg) HG4.out.size) HN3.out HN4.out);clear ho hg hv hr hc4 ha HG3 HV3 HB3 HR3 HC2;refine hK.out _ _ (cell_at HB4.out rfl) (fun hHeld => ?_);clear hK K;refine norm_ (a':=?_) ?_ ?_
      rotate_left
      · show Act.put _ (some 24) _ = _
        simp only [NR];rfl
      refine one_ (i:=11) (N:=some 25) (bm 13 4095) rfl rfl (by kernel_rfl) (by decide) (fun K hK => ?_);refine goes_ Tryz.func62 (by kernel_rfl) rfl #[.agg #[.func (.func f) #[] caps],.slice A3 h c3,.slice A4 (n - h) c4] (by rfl) rfl rfl (by simp only [List.map_toArray,List.map_cons,List.map_nil];try rfl) ?_;with_reducible refine (HCm.out).mono ?_
      rintro e w5 ⟨v5,rfl,ho,hg,hv⟩;refine ⟨_,rfl,?_⟩;have HO5:=Am ho;have HG5:=Am (gT HG4.out hg);have HV5:=Am hv;have HB5:=Am (blk_kept HB4.out hg hnb.out);clear ho hg hv HB4 HV4 HCm;refine hK.out _ _ (cell_at HB5.out rfl) (fun hHeld => ?_);clear hK K;refine norm_ (a':=?_) ?_ ?_
      rotate_left
      · show Act.put _ (some 25) _ = _
        simp only [NR];rfl
      refine pu_ 12 (some 4) (bm 13 8191) (by kernel_rfl) ?_;refine done_ (by kernel_rfl) ?_;go_wp2;go_ret;refine ⟨_,rfl,?_,HG5.out,HV5.out⟩;have h5:=own_mono HO5.out HG4.out.size;rw [← HE.out,show h + (n - h) = n by omega] at h5;exact h5

theorem Sort_calls {f : FuncId} {fn : Func} {caps : Array Value} {lt : Int → Int → Bool} {row : Option Nat} {Inv : World → Prop} (hf : Tryz.prog.funcs[f]? = some fn) (hnm : (fn.name == "runtime.NumGoroutine") = false) (hbd : fn.body.isSome = true)
    (F : Order Tryz.prog f caps (fun x : Int => .int .i64 x) lt row Inv)
    (w : World) (A : Option Addr) (n c : Nat) (xs : List Int) (hx : Rd (Ei .i64) w A n xs) (hc : n ≤ c) (hs : n * 8 ≤ 140737488355328)
    (hI : Inv w) (hrow : ∀ g,row = some g → g < w.heap.size) (hA : ∀ ad,A = some ad → 0 < n → some ad.block ≠ row) :
    Calls Tryz.prog 13 #[.slice A n c,.func (.func f) #[] caps] w (OwnI w row Inv (sortL lt xs) n):=by
  have H:=Am (sort_calls hf hnm hbd F n w A n c xs hx hc hs hI hrow hA (Nat.le_refl _));clear hx hI hrow hA;go_enter Tryz.func13,Tryz.ntmps13;go_wp2_with fail
  refine (H.out).mono ?_;rintro e w1 ⟨v,rfl,ho,hg,hv⟩;have HO:=Am ho;have HG:=Am hg;have HV:=Am hv;clear ho hg hv;go_wp2;go_ret;exact ⟨_,rfl,HO.out,HG.out,HV.out⟩
theorem less_order : Order Tryz.prog 14 #[] (fun x : Int => .int .i64 x) (fun x y => decide (x < y)) none (fun _ => True):=
  ⟨fun w x y _ => (less_calls w x y).mono fun e w' ⟨he,hw⟩ => ⟨he,trivial,by subst hw;exact gb_refl _ _⟩,fun _ _ _ _ _ _ => trivial⟩
/-- Items: a key,a number. -/
def Et : Enc (Int × Int):=⟨2,fun x => [.int .i64 x.1,.int .i64 x.2],fun _ => rfl,fun _ v hv => by
  simp only [List.mem_cons,List.not_mem_nil,or_false] at hv;rcases hv with rfl | rfl <;> rfl,by decide⟩
/-- A list of the call's own is answered;of what was there at most the row has turned. -/
def OwnT (w : World) (row : Option Nat) (Inv : World → Prop) (xs : List (Int × Int)) (n : Nat) (e : Ending) (w' : World) : Prop:=∃ v,e = .returned v ∧ w'.ownsRow w.heap.size 40 2 v n (flat Et xs) ∧ w.grownBy w' row ∧ Inv w'

theorem mergeT_calls {f : FuncId} {fn : Func} {caps : Array Value} {lt : Int × Int → Int × Int → Bool} {row : Option Nat} {Inv : World → Prop} (hf : Tryz.prog.funcs[f]? = some fn) (hnm : (fn.name == "runtime.NumGoroutine") = false) (hbd : fn.body.isSome = true)
    (F : Order Tryz.prog f caps (fun x : Int × Int => .agg #[.int .i64 x.1,.int .i64 x.2]) lt row Inv)
    (w : World) (A B : Option Addr) (n m c d : Nat) (xs ys : List (Int × Int)) (hx : Rd Et w A n xs) (hy : Rd Et w B m ys) (hc : n ≤ c) (hd : m ≤ d) (hs : (n + m) * 16 ≤ 140737488355328)
    (hI : Inv w) (hrow : ∀ g,row = some g → g < w.heap.size) (hA : ∀ ad,A = some ad → 0 < n → some ad.block ≠ row) (hB : ∀ ad,B = some ad → 0 < m → some ad.block ≠ row) :
    Calls Tryz.prog 80 #[.agg #[.func (.func f) #[] caps],.slice A n c,.slice B m d] w (OwnT w row Inv (mergeL lt xs ys) (n + m)):=by
  have HX:=Am hx;have HY:=Am hy;have HF:=Am F;have HI:=Am hI;have HR:=Am hrow;have HNA:=Am hA;have HNB:=Am hB;clear hx hy F hI hrow hA hB;obtain ⟨i3,hi3,hz0,hz1,hz2⟩:=info_parts (show (Tryz.prog.info? 40).map (fun i => (i.zero,i.size,i.bytes)) = some (some (.agg #[.int .i64 0,.int .i64 0]),2,16) by kernel_rfl);have HI3:=Am hi3;have HZ0:=Am hz0;have HZ1:=Am hz1;have HZ2:=Am hz2;clear hi3 hz0 hz1 hz2;have HBX:=Am (heap_alloc_new w (.cells #[.func (.func f) #[] caps] 78));go_enter Tryz.func80,Tryz.ntmps80;go_wp2_with (at_make;refine wpList_make_own _ rfl _ _ 35 rfl (w.heap.size + 1) 40 i3 (.agg #[.int .i64 0,.int .i64 0]) 2 Tryz.underlying35 HI3.out HZ0.out HZ1.out .i64 .i64 _ (n + m) rfl rfl (by first | rfl | simp) (by rw [HZ2.out];omega) (by simp only [maxLen];omega) (by simp) ?_;intro w1 hown hg;have HO:=Am hown;have HG:=Am hg;clear hown hg)
  have HB1:=Am (blk_kept HBX.out HG.out (by simp));have HG1:=Am (gb_any (gT (gA w _ none) HG.out) row);have HV1:=Am (HF.out.keep _ _ none (HF.out.keep _ _ none HI.out (gA w (.cells #[.func (.func f) #[] caps] 78) none) (by simp)) HG.out (by simp));have HOa : Aside0 (w1.ownsRow (w.heap.size + 1) 40 2 (Value.slice (some { block:=w.heap.size + 1,off:=0 }) 0 (n + m)) 0 (flat Et [])):=⟨by rw [flat_nil];simpa using HO.out⟩;clear HO HG HBX HI;go_loopg [1,2,7] (n + m) (fun k v1 v2 v7 wr => ∃ (A' B' : Option Addr) (p q r c' d' : Nat) (xs' ys' os : List (Int × Int)),v1 = .slice A' p c' ∧ v2 = .slice B' q d' ∧ Aside0 (p + q = k) ∧ Aside0 (r + p + q = n + m) ∧ Aside0 (os.length = r) ∧ Aside0 (p ≤ c' ∧ q ≤ d') ∧ Aside0 (Rd Et w A' p xs') ∧ Aside0 (Rd Et w B' q ys')
    ∧ Aside0 (∀ ad,A' = some ad → 0 < p → some ad.block ≠ row) ∧ Aside0 (∀ ad,B' = some ad → 0 < q → some ad.block ≠ row)
    ∧ Aside0 (os ++ mergeL lt xs' ys' = mergeL lt xs ys) ∧ Aside0 (wr.ownsRow (w.heap.size + 1) 40 2 v7 r (flat Et os)) ∧ Aside0 (w.grownBy wr row) ∧ Aside0 (Inv wr) ∧ Aside0 (wr.heap[w.heap.size]? = some (.cells #[.func (.func f) #[] caps] 78 (0,0))))
  case atStart => exact ⟨A,B,n,m,0,c,d,xs,ys,[],rfl,rfl,⟨rfl⟩,⟨by omega⟩,⟨rfl⟩,⟨⟨hc,hd⟩⟩,HX,HY,HNA,HNB,⟨rfl⟩,HOa,HG1,HV1,HB1⟩
  case round =>
    obtain ⟨A',B',p,q,r,c',d',xs',ys',os,rfl,rfl,HD,HS,HL,HC,HX',HY',HNA',HNB',HE,HO,HG,HV,HB⟩:=hrel;have hpq:=HS.out
    by_cases hp : 0 < p
    · have hp1 : decide (0 < p) = true:=dT hp
      have hp2 : decide ((0 : Int) < (p : Int)) = true:=dT (by omega)
      by_cases hq : 0 < q
      · have hq1 : decide (0 < q) = true:=dT hq
        have hq2 : decide ((0 : Int) < (q : Int)) = true:=dT (by omega);obtain ⟨bd,y,rfl,hy0,hcb⟩:=HY'.out.at_ 0 hq;obtain ⟨ad,x,rfl,hx0,hca⟩:=HX'.out.at_ 0 hp;obtain ⟨xr,rfl⟩:=drop_cons hx0;obtain ⟨yr,rfl⟩:=drop_cons hy0;have hcb' : w.cell? bd = some (.int .i64 y.1) ∧ w.cell? ⟨bd.block,bd.off + 1,none⟩ = some (.int .i64 y.2):=⟨by simpa [Addr.add] using hcb 0 _ rfl,by simpa [Addr.add] using hcb 1 _ rfl⟩;have hca' : w.cell? ad = some (.int .i64 x.1) ∧ w.cell? ⟨ad.block,ad.off + 1,none⟩ = some (.int .i64 x.2):=⟨by simpa [Addr.add] using hca 0 _ rfl,by simpa [Addr.add] using hca 1 _ rfl⟩;have hny : some bd.block ≠ row:=HNB'.out bd rfl hq;have hnx : some ad.block ≠ row:=HNA'.out ad rfl hp;have hnb : Aside0 (some w.heap.size ≠ row):=⟨fun e => absurd (HR.out _ e.symm) (Nat.lt_irrefl _)⟩;have hrb : Aside0 (∀ k,row = some k → k < w.heap.size + 1):=⟨fun k e => Nat.lt_succ_of_lt (HR.out k e)⟩;have HN:=Am (And.intro hny hnx);have HWc:=Am (And.intro hcb' hca');have HK : Aside0 (wr.drew.cell? ⟨w.heap.size,0,none⟩ = some (.func (.func f) #[] caps) ∧ (wr.drew.cell? bd = some (.int .i64 y.1) ∧ wr.drew.cell? ⟨bd.block,bd.off + 1,none⟩ = some (.int .i64 y.2)) ∧ (wr.drew.cell? ad = some (.int .i64 x.1) ∧ wr.drew.cell? ⟨ad.block,ad.off + 1,none⟩ = some (.int .i64 x.2))):=
          ⟨cell_at (blk_kept HB.out (gb_drew wr none) (by simp)) rfl,⟨(gb_drew wr none).cell (HG.out.cell hcb'.1 hny) (by simp),(gb_drew wr none).cell (HG.out.cell hcb'.2 hny) (by simp)⟩,⟨(gb_drew wr none).cell (HG.out.cell hca'.1 hnx) (by simp),(gb_drew wr none).cell (HG.out.cell hca'.2 hnx) (by simp)⟩⟩
        have HGd:=Am (gT HG.out (gb_drew wr row));have HVd:=Am (HF.out.keep _ _ none HV.out (gb_drew wr none) (by simp));have HOd:=Am (own_kept HO.out (gb_drew wr none) (by simp));have HBd:=Am (blk_kept HB.out (gb_drew wr none) (by simp));clear hcb' hca' hny hnx hcb hca hx0 hy0 HG HV HO HB
        by_cases hlt : lt y x = true
        · have HLT:=Am hlt
          obtain ⟨A2,hcut,hrd,hbl⟩:=cut_at (P:=Tryz.prog) Et 35 40 .i64 Tryz.underlying35 HI3.out HZ1.out (some bd) q d' 1 (by omega);have hcut1 : ∀ W : World,(Instr.slice 35 (.slice (some bd) q d') (some (.int .i64 1)) none none).run Tryz.prog W = .ok (.slice A2 (q - 1) (d' - 1)) W:=fun W => hcut W
          have HR2:=Am (hrd _ _ (by have:=HC.out;omega) HY'.out);have HN2 : Aside0 (∀ ad,A2 = some ad → 0 < q - 1 → some ad.block ≠ row):=⟨fun z hz _ => by obtain ⟨a0,h1,h2⟩:=hbl z hz;rw [h2];exact HNB'.out a0 h1 (by omega)⟩;clear hcut hrd hbl;go_wp2_with fail
          refine start_ (n:=9) (S:=fun w' => w'.cell? ⟨w.heap.size,0,none⟩ = some (.func (.func f) #[] caps) ∧ w'.cell? bd = some (.int .i64 y.1) ∧ w'.cell? ⟨bd.block,bd.off + 1,none⟩ = some (.int .i64 y.2) ∧ w'.cell? ad = some (.int .i64 x.1) ∧ w'.cell? ⟨ad.block,ad.off + 1,none⟩ = some (.int .i64 x.2)) (ds:=[8]) #[nn,nn,nn,nn,nn,nn,nn,nn,nn] (by kernel_rfl) rfl rfl ⟨HK.out.1,HK.out.2.1.1,HK.out.2.1.2,HK.out.2.2.1,HK.out.2.2.2⟩ (fun hHeld => ?_);refine pu_ 0 (some 22) (bm 9 1) (by kernel_rfl) ?_;refine pu_ 2 (some 24) (bm 9 5) (by kernel_rfl) ?_;refine pu_ 3 (some 25) (bm 9 13) (by kernel_rfl) ?_;refine pu_ 5 (some 27) (bm 9 45) (by kernel_rfl) ?_;refine pu_ 6 (some 28) (bm 9 109) (by kernel_rfl) ?_;refine tk_ 1 (some 23) (bm 9 111) (by kernel_rfl) hHeld ?_;refine tk_ 4 (some 26) (bm 9 127) (by kernel_rfl) hHeld ?_;refine tk_ 7 (some 29) (bm 9 255) (by kernel_rfl) hHeld ?_;refine last_ (i:=8) (N:=some 30) (bm 9 511) rfl rfl (by kernel_rfl) (by decide) (fun K hK => ?_);refine goesV_ hf hnm hbd #[] caps (#[.agg #[.int .i64 y.1,.int .i64 y.2],.agg #[.int .i64 x.1,.int .i64 x.2]] ++ caps) (by rfl) rfl rfl (by rfl) (by simp only [List.map_toArray,List.map_cons,List.map_nil];rfl) ?_;with_reducible refine (HF.out.call _ y x HVd.out).mono ?_
          rintro e w3 ⟨rfl,hv,hg⟩;rw [HLT.out];refine ⟨_,rfl,?_⟩;have HG3:=Am (gT HGd.out hg);have HV3:=Am hv;have HO3:=Am (own_kept HOd.out hg hrb.out);have HB3:=Am (blk_kept HBd.out hg hnb.out);clear hv hg HGd HVd HOd HBd;refine hK.out _ _ ?_;clear hK K;refine norm_ (a':=?_) ?_ ?_
          rotate_left
          · show Act.put _ (some 30) _ = _
            simp only [NR];rfl
          refine done_ (by kernel_rfl) ?_;have HK4:=Am (And.intro ((gb_drew w3 none).cell (HG3.out.cell HWc.out.1.1 HN.out.1) (by simp)) ((gb_drew w3 none).cell (HG3.out.cell HWc.out.1.2 HN.out.1) (by simp)));have HG3d:=Am (gT HG3.out (gb_drew w3 row));have HV3d:=Am (HF.out.keep _ _ none HV3.out (gb_drew w3 none) (by simp));have HO3d:=Am (own_kept HO3.out (gb_drew w3 none) (by simp));have HB3d:=Am (blk_kept HB3.out (gb_drew w3 none) (by simp));have hsz4 : Aside0 (w.heap.size + 1 ≤ (w3.drew.alloc (.cells #[.int .i64 y.1,.int .i64 y.2] 40)).heap.size):=⟨by have:=blk_lt' HB3d.out;simp at this ⊢;omega⟩;clear HG3 HV3 HO3 HB3;go_wp2_with fail
          refine start_ (n:=10) (S:=fun w' => w'.cell? bd = some (.int .i64 y.1) ∧ w'.cell? ⟨bd.block,bd.off + 1,none⟩ = some (.int .i64 y.2)) (ds:=[5]) #[nn,nn,nn,nn,nn,nn,nn,nn,nn,nn] (by kernel_rfl) rfl rfl ⟨HK4.out.1,HK4.out.2⟩ (fun hHeld => ?_);refine pu_ 0 (some 31) (bm 10 1) (by kernel_rfl) ?_;refine pu_ 1 (some 32) (bm 10 3) (by kernel_rfl) ?_;refine pu_ 2 (some 33) (bm 10 7) (by kernel_rfl) ?_;refine pu_ 6 (some 37) (bm 10 71) (by kernel_rfl) ?_;refine pu_ 7 (some 38) (bm 10 199) (by kernel_rfl) ?_;refine tk_ 3 (some 34) (bm 10 207) (by kernel_rfl) hHeld ?_;refine one_ (i:=4) (N:=some 35) (bm 10 223) rfl rfl (by kernel_rfl) (by decide) (fun K hK => ?_);refine value_ (w1:=?_) (v:=?_) (by rfl) rfl ?_ ?_
          rotate_left 2
          · go_simp
            constructor
            · rfl
            · rfl
          have HO4:=Am (own_kept HO3d.out (gA _ (.cells #[.int .i64 y.1,.int .i64 y.2] 40) none) (by simp));have HG4:=Am (gT HG3d.out (gA _ (.cells #[.int .i64 y.1,.int .i64 y.2] 40) row));have HV4:=Am (HF.out.keep _ _ none HV3d.out (gA _ (.cells #[.int .i64 y.1,.int .i64 y.2] 40) none) (by simp));have HB4:=Am (blk_kept HB3d.out (gA _ (.cells #[.int .i64 y.1,.int .i64 y.2] 40) none) (by simp));have HL4:=Am (rd_lit Et w3.drew 40 [y] (by simp));clear HO3d HG3d HV3d HB3d;refine hK.out _ _ ⟨(gA _ _ none).cell hHeld.1 (by simp),(gA _ _ none).cell hHeld.2 (by simp)⟩ (fun hHeld => ?_);clear hK K;refine norm_ (a':=?_) ?_ ?_
          rotate_left
          · show Act.put _ (some 35) _ = _
            simp only [NR];rfl
          refine last_ (i:=5) (N:=some 36) (bm 10 255) rfl rfl (by kernel_rfl) (by decide) (fun K hK => ?_);refine app_step Et (by rfl) rfl (w.heap.size + 1) (.tmp 31) (.tmp 35) 35 40 (.agg #[.int .i64 0,.int .i64 0]) 16 rfl Tryz.underlying35 (by kernel_rfl) rfl (by decide) _ r os [y] _ 1 1 rfl rfl HL.out HO4.out HL4.out hsz4.out (by have:=HS.out;omega) ?_;intro v5 w5 ho hg hn;have HO5:=Am ho;have HG5:=Am (gb_own HG4.out HO4.out hg (by omega));have HV5:=Am (HF.out.keep _ _ _ HV4.out hg (own_row HO4.out HR.out));have HB5:=Am (blk_kept HB4.out hg (own_not HO4.out));clear ho hg hn HO4 HG4 HV4 HB4 HL4;refine hK.out _ _ ?_;clear hK K;refine norm_ (a':=?_) ?_ ?_
          rotate_left
          · show Act.put _ (some 36) _ = _
            simp only [NR];rfl
          refine pu_ 8 (some 7) (bm 10 511) (by kernel_rfl) ?_;refine pu_ 9 (some 2) (bm 10 1023) (by kernel_rfl) ?_;refine done_ (by kernel_rfl) ?_;go_wp2_with fail
          go_roundg (p + q - 1)
          case measure => have:=HD.out;omega
          case rel =>
            have hS:=HS.out;have hD:=HD.out;have hC:=HC.out;refine ⟨_,_,p,q - 1,r + 1,c',d' - 1,x :: xr,yr,os ++ [y],rfl,rfl,⟨by omega⟩,⟨by omega⟩,⟨by rw [List.length_append,HL.out];rfl⟩,⟨by omega⟩,HX',HR2,HNA',HN2,⟨?_⟩,HO5,HG5,HV5,HB5⟩;rw [← HE.out,mergeL,if_pos HLT.out,List.append_assoc];rfl
        · have hlt' : lt y x = false:=by simpa using hlt
          have HLT:=Am hlt';clear hlt;obtain ⟨A2,hcut,hrd,hbl⟩:=cut_at (P:=Tryz.prog) Et 35 40 .i64 Tryz.underlying35 HI3.out HZ1.out (some ad) p c' 1 (by omega);have hcut1 : ∀ W : World,(Instr.slice 35 (.slice (some ad) p c') (some (.int .i64 1)) none none).run Tryz.prog W = .ok (.slice A2 (p - 1) (c' - 1)) W:=fun W => hcut W
          have HR2:=Am (hrd _ _ (by have:=HC.out;omega) HX'.out);have HN2 : Aside0 (∀ ad,A2 = some ad → 0 < p - 1 → some ad.block ≠ row):=⟨fun z hz _ => by obtain ⟨a0,h1,h2⟩:=hbl z hz;rw [h2];exact HNA'.out a0 h1 (by omega)⟩;clear hcut hrd hbl;go_wp2_with fail
          refine start_ (n:=9) (S:=fun w' => w'.cell? ⟨w.heap.size,0,none⟩ = some (.func (.func f) #[] caps) ∧ w'.cell? bd = some (.int .i64 y.1) ∧ w'.cell? ⟨bd.block,bd.off + 1,none⟩ = some (.int .i64 y.2) ∧ w'.cell? ad = some (.int .i64 x.1) ∧ w'.cell? ⟨ad.block,ad.off + 1,none⟩ = some (.int .i64 x.2)) (ds:=[8]) #[nn,nn,nn,nn,nn,nn,nn,nn,nn] (by kernel_rfl) rfl rfl ⟨HK.out.1,HK.out.2.1.1,HK.out.2.1.2,HK.out.2.2.1,HK.out.2.2.2⟩ (fun hHeld => ?_);refine pu_ 0 (some 22) (bm 9 1) (by kernel_rfl) ?_;refine pu_ 2 (some 24) (bm 9 5) (by kernel_rfl) ?_;refine pu_ 3 (some 25) (bm 9 13) (by kernel_rfl) ?_;refine pu_ 5 (some 27) (bm 9 45) (by kernel_rfl) ?_;refine pu_ 6 (some 28) (bm 9 109) (by kernel_rfl) ?_;refine tk_ 1 (some 23) (bm 9 111) (by kernel_rfl) hHeld ?_;refine tk_ 4 (some 26) (bm 9 127) (by kernel_rfl) hHeld ?_;refine tk_ 7 (some 29) (bm 9 255) (by kernel_rfl) hHeld ?_;refine last_ (i:=8) (N:=some 30) (bm 9 511) rfl rfl (by kernel_rfl) (by decide) (fun K hK => ?_);refine goesV_ hf hnm hbd #[] caps (#[.agg #[.int .i64 y.1,.int .i64 y.2],.agg #[.int .i64 x.1,.int .i64 x.2]] ++ caps) (by rfl) rfl rfl (by rfl) (by simp only [List.map_toArray,List.map_cons,List.map_nil];rfl) ?_;with_reducible refine (HF.out.call _ y x HVd.out).mono ?_
          rintro e w3 ⟨rfl,hv,hg⟩;rw [HLT.out];refine ⟨_,rfl,?_⟩;have HG3:=Am (gT HGd.out hg);have HV3:=Am hv;have HO3:=Am (own_kept HOd.out hg hrb.out);have HB3:=Am (blk_kept HBd.out hg hnb.out);clear hv hg HGd HVd HOd HBd;refine hK.out _ _ ?_;clear hK K;refine norm_ (a':=?_) ?_ ?_
          rotate_left
          · show Act.put _ (some 30) _ = _
            simp only [NR];rfl
          refine done_ (by kernel_rfl) ?_;have HK4:=Am (And.intro ((gb_drew w3 none).cell (HG3.out.cell HWc.out.2.1 HN.out.2) (by simp)) ((gb_drew w3 none).cell (HG3.out.cell HWc.out.2.2 HN.out.2) (by simp)));have HG3d:=Am (gT HG3.out (gb_drew w3 row));have HV3d:=Am (HF.out.keep _ _ none HV3.out (gb_drew w3 none) (by simp));have HO3d:=Am (own_kept HO3.out (gb_drew w3 none) (by simp));have HB3d:=Am (blk_kept HB3.out (gb_drew w3 none) (by simp));have hsz4 : Aside0 (w.heap.size + 1 ≤ (w3.drew.alloc (.cells #[.int .i64 x.1,.int .i64 x.2] 40)).heap.size):=⟨by have:=blk_lt' HB3d.out;simp at this ⊢;omega⟩;clear HG3 HV3 HO3 HB3;go_wp2_with fail
          refine start_ (n:=10) (S:=fun w' => w'.cell? ad = some (.int .i64 x.1) ∧ w'.cell? ⟨ad.block,ad.off + 1,none⟩ = some (.int .i64 x.2)) (ds:=[5]) #[nn,nn,nn,nn,nn,nn,nn,nn,nn,nn] (by kernel_rfl) rfl rfl ⟨HK4.out.1,HK4.out.2⟩ (fun hHeld => ?_);refine pu_ 0 (some 39) (bm 10 1) (by kernel_rfl) ?_;refine pu_ 1 (some 40) (bm 10 3) (by kernel_rfl) ?_;refine pu_ 2 (some 41) (bm 10 7) (by kernel_rfl) ?_;refine pu_ 6 (some 45) (bm 10 71) (by kernel_rfl) ?_;refine pu_ 7 (some 46) (bm 10 199) (by kernel_rfl) ?_;refine tk_ 3 (some 42) (bm 10 207) (by kernel_rfl) hHeld ?_;refine one_ (i:=4) (N:=some 43) (bm 10 223) rfl rfl (by kernel_rfl) (by decide) (fun K hK => ?_);refine value_ (w1:=?_) (v:=?_) (by rfl) rfl ?_ ?_
          rotate_left 2
          · go_simp
            constructor
            · rfl
            · rfl
          have HO4:=Am (own_kept HO3d.out (gA _ (.cells #[.int .i64 x.1,.int .i64 x.2] 40) none) (by simp));have HG4:=Am (gT HG3d.out (gA _ (.cells #[.int .i64 x.1,.int .i64 x.2] 40) row));have HV4:=Am (HF.out.keep _ _ none HV3d.out (gA _ (.cells #[.int .i64 x.1,.int .i64 x.2] 40) none) (by simp));have HB4:=Am (blk_kept HB3d.out (gA _ (.cells #[.int .i64 x.1,.int .i64 x.2] 40) none) (by simp));have HL4:=Am (rd_lit Et w3.drew 40 [x] (by simp));clear HO3d HG3d HV3d HB3d;refine hK.out _ _ ⟨(gA _ _ none).cell hHeld.1 (by simp),(gA _ _ none).cell hHeld.2 (by simp)⟩ (fun hHeld => ?_);clear hK K;refine norm_ (a':=?_) ?_ ?_
          rotate_left
          · show Act.put _ (some 43) _ = _
            simp only [NR];rfl
          refine last_ (i:=5) (N:=some 44) (bm 10 255) rfl rfl (by kernel_rfl) (by decide) (fun K hK => ?_);refine app_step Et (by rfl) rfl (w.heap.size + 1) (.tmp 39) (.tmp 43) 35 40 (.agg #[.int .i64 0,.int .i64 0]) 16 rfl Tryz.underlying35 (by kernel_rfl) rfl (by decide) _ r os [x] _ 1 1 rfl rfl HL.out HO4.out HL4.out hsz4.out (by have:=HS.out;omega) ?_;intro v5 w5 ho hg hn;have HO5:=Am ho;have HG5:=Am (gb_own HG4.out HO4.out hg (by omega));have HV5:=Am (HF.out.keep _ _ _ HV4.out hg (own_row HO4.out HR.out));have HB5:=Am (blk_kept HB4.out hg (own_not HO4.out));clear ho hg hn HO4 HG4 HV4 HB4 HL4;refine hK.out _ _ ?_;clear hK K;refine norm_ (a':=?_) ?_ ?_
          rotate_left
          · show Act.put _ (some 44) _ = _
            simp only [NR];rfl
          refine pu_ 8 (some 7) (bm 10 511) (by kernel_rfl) ?_;refine pu_ 9 (some 1) (bm 10 1023) (by kernel_rfl) ?_;refine done_ (by kernel_rfl) ?_;go_wp2_with fail
          go_roundg (p + q - 1)
          case measure => have:=HD.out;omega
          case rel =>
            have hS:=HS.out;have hD:=HD.out;have hC:=HC.out;refine ⟨_,_,p - 1,q,r + 1,c' - 1,d',xr,y :: yr,os ++ [x],rfl,rfl,⟨by omega⟩,⟨by omega⟩,⟨by rw [List.length_append,HL.out];rfl⟩,⟨by omega⟩,HR2,HY',HN2,HNB',⟨?_⟩,HO5,HG5,HV5,HB5⟩;rw [← HE.out,mergeL,if_neg (by rw [HLT.out];decide),List.append_assoc];rfl
      · obtain rfl : q = 0:=by omega
        have hF : os ++ xs' ++ ys' = mergeL lt xs ys:=by
          obtain rfl : ys' = []:=List.eq_nil_of_length_eq_zero HY'.out.1;rw [← HE.out,mergeL_nil,List.append_nil]
        have HF2:=Am hF;have hlb:=HL.out;have HYo : Aside0 (∀ ad,B' = some ad → 0 < 0 → ad.block < w.heap.size + 1):=⟨fun ad h1 h2 => Nat.lt_succ_of_lt (rd_lt HY'.out ad h1 h2)⟩;have HXr:=Am (rd_at_zero HX'.out HG.out HNA'.out);have HYr:=Am (rd_at_zero HY'.out HG.out HNB'.out);have HSZ:=Am (blk_lt' HB.out);clear hF hlb;go_wp2_with (first | (at_builtin;refine app Et (w.heap.size + 1) rfl (.tmp 47) (.tmp 48) 35 40 (.agg #[.int .i64 0,.int .i64 0]) 16 rfl Tryz.underlying35 (by kernel_rfl) rfl (by decide) _ r os xs' _ p _ rfl rfl HL.out HO.out HXr.out HSZ.out (by have:=HS.out;omega) ?_;intro v5 w5 ho hg hn;have HO5:=Am ho;have HG5:=Am (gb_own HG.out HO.out hg (by omega));have HV5:=Am (HF.out.keep _ _ _ HV.out hg (own_row HO.out HR.out));have HSZ5:=Am (Nat.lt_of_lt_of_le HSZ.out hg.size);have HY5:=Am (rd_own HYr.out HYo.out HO.out hg);clear ho hg hn HO HG HV HB HSZ HXr HYr) | (at_builtin;refine app Et (w.heap.size + 1) rfl (.tmp 49) (.tmp 50) 35 40 (.agg #[.int .i64 0,.int .i64 0]) 16 rfl Tryz.underlying35 (by kernel_rfl) rfl (by decide) _ (r + p) (os ++ xs') ys' _ 0 _ rfl rfl (by rw [List.length_append,HL.out,HX'.out.1]) HO5.out HY5.out HSZ5.out (by have:=HS.out;omega) ?_;intro v6 w6 ho hg hn;have HO6:=Am ho;have HG6:=Am (gb_own HG5.out HO5.out hg (by omega));have HV6:=Am (HF.out.keep _ _ _ HV5.out hg (own_row HO5.out HR.out));clear ho hg hn HO5 HG5 HV5 HSZ5 HY5))
        go_ret;refine ⟨_,rfl,?_,HG6.out,HV6.out⟩;have h6:=own_mono HO6.out (Nat.le_succ _);rw [HF2.out,show r + p + 0 = n + m by have:=HS.out;omega] at h6;exact h6
    · obtain rfl : p = 0:=by omega
      have hF : os ++ xs' ++ ys' = mergeL lt xs ys:=by
        obtain rfl : xs' = []:=List.eq_nil_of_length_eq_zero HX'.out.1;rw [← HE.out,List.append_nil];simp [mergeL]
      have HF2:=Am hF;have hlb:=HL.out;have HYo : Aside0 (∀ ad,B' = some ad → 0 < q → ad.block < w.heap.size + 1):=⟨fun ad h1 h2 => Nat.lt_succ_of_lt (rd_lt HY'.out ad h1 h2)⟩;have HXr:=Am (rd_at_zero HX'.out HG.out HNA'.out);have HYr:=Am (rd_at_zero HY'.out HG.out HNB'.out);have HSZ:=Am (blk_lt' HB.out);clear hF hlb;go_wp2_with (first | (at_builtin;refine app Et (w.heap.size + 1) rfl (.tmp 47) (.tmp 48) 35 40 (.agg #[.int .i64 0,.int .i64 0]) 16 rfl Tryz.underlying35 (by kernel_rfl) rfl (by decide) _ r os xs' _ 0 _ rfl rfl HL.out HO.out HXr.out HSZ.out (by have:=HS.out;omega) ?_;intro v5 w5 ho hg hn;have HO5:=Am ho;have HG5:=Am (gb_own HG.out HO.out hg (by omega));have HV5:=Am (HF.out.keep _ _ _ HV.out hg (own_row HO.out HR.out));have HSZ5:=Am (Nat.lt_of_lt_of_le HSZ.out hg.size);have HY5:=Am (rd_own HYr.out HYo.out HO.out hg);clear ho hg hn HO HG HV HB HSZ HXr HYr) | (at_builtin;refine app Et (w.heap.size + 1) rfl (.tmp 49) (.tmp 50) 35 40 (.agg #[.int .i64 0,.int .i64 0]) 16 rfl Tryz.underlying35 (by kernel_rfl) rfl (by decide) _ (r + 0) (os ++ xs') ys' _ q _ rfl rfl (by rw [List.length_append,HL.out,HX'.out.1]) HO5.out HY5.out HSZ5.out (by have:=HS.out;omega) ?_;intro v6 w6 ho hg hn;have HO6:=Am ho;have HG6:=Am (gb_own HG5.out HO5.out hg (by omega));have HV6:=Am (HF.out.keep _ _ _ HV5.out hg (own_row HO5.out HR.out));clear ho hg hn HO5 HG5 HV5 HSZ5 HY5))
      go_ret;refine ⟨_,rfl,?_,HG6.out,HV6.out⟩;have h6:=own_mono HO6.out (Nat.le_succ _);rw [HF2.out,show r + 0 + q = n + m by have:=HS.out;omega] at h6;exact h6

theorem sortT_small {f : FuncId} {fn : Func} {caps : Array Value} {lt : Int × Int → Int × Int → Bool} {row : Option Nat} {Inv : World → Prop} (hf : Tryz.prog.funcs[f]? = some fn) (hnm : (fn.name == "runtime.NumGoroutine") = false) (hbd : fn.body.isSome = true)
    (F : Order Tryz.prog f caps (fun x : Int × Int => .agg #[.int .i64 x.1,.int .i64 x.2]) lt row Inv)
    (w : World) (A : Option Addr) (n c : Nat) (xs : List (Int × Int)) (hx : Rd Et w A n xs) (hI : Inv w) (h2 : n < 2) :
    Calls Tryz.prog 42 #[.agg #[.func (.func f) #[] caps],.slice A n c] w (OwnT w row Inv (sortL lt xs) n):=by
  have HX:=Am hx;have HF:=Am F;have HI:=Am hI;clear hx F hI;have hb1 : decide (n < 2) = true:=dT h2;have hb2 : decide ((n : Int) < 2) = true:=dT (by omega);have HE:=Am (show sortL lt xs = xs by rw [sortL,dif_pos (by rw [HX.out.1];exact h2)]);have HX1:=Am (rd_alloc HX.out (.cells #[.func (.func f) #[] caps] 78));have HO0 : Aside0 ((w.alloc (.cells #[.func (.func f) #[] caps] 78)).ownsRow w.heap.size 40 2 (.slice none 0 0) 0 (flat Et [])):=⟨own_nil _ _ _ _⟩;have HI1:=Am (HF.out.keep _ _ none HI.out (gA w (.cells #[.func (.func f) #[] caps] 78) none) (by simp));go_enter Tryz.func42,Tryz.ntmps42;go_wp2_with (at_builtin;refine app Et w.heap.size rfl (.const (.slice none 0 0)) (.tmp 9) 35 40 (.agg #[.int .i64 0,.int .i64 0]) 16 rfl Tryz.underlying35 (by kernel_rfl) rfl (by decide) _ 0 [] xs _ n _ rfl rfl rfl HO0.out HX1.out (by simp) (by omega) ?_;intro v5 w5 ho hg hn;have HO5:=Am ho;have HG5:=Am (gT (gA w (.cells #[.func (.func f) #[] caps] 78) none) hg);have HV5:=Am (HF.out.keep _ _ _ HI1.out hg (fun g _ => by show (none : Option Nat) ≠ some g;simp));clear ho hg hn)
  go_ret;refine ⟨_,rfl,?_,gb_any HG5.out row,HV5.out⟩;have h5:=HO5.out;rw [List.nil_append,Nat.zero_add] at h5;rw [HE.out];exact h5

theorem sortT_calls {f : FuncId} {fn : Func} {caps : Array Value} {lt : Int × Int → Int × Int → Bool} {row : Option Nat} {Inv : World → Prop} (hf : Tryz.prog.funcs[f]? = some fn) (hnm : (fn.name == "runtime.NumGoroutine") = false) (hbd : fn.body.isSome = true)
    (F : Order Tryz.prog f caps (fun x : Int × Int => .agg #[.int .i64 x.1,.int .i64 x.2]) lt row Inv) : ∀ (k : Nat)
    (w : World) (A : Option Addr) (n c : Nat) (xs : List (Int × Int)) (hx : Rd Et w A n xs) (hc : n ≤ c) (hs : n * 16 ≤ 140737488355328)
    (hI : Inv w) (hrow : ∀ g,row = some g → g < w.heap.size) (hA : ∀ ad,A = some ad → 0 < n → some ad.block ≠ row),n ≤ k →
    Calls Tryz.prog 42 #[.agg #[.func (.func f) #[] caps],.slice A n c] w (OwnT w row Inv (sortL lt xs) n):=by
  intro k
  induction k with
  | zero => exact fun w A n c xs hx hc hs hI hrow hA hk => sortT_small hf hnm hbd F w A n c xs hx hI (by omega)
  | succ k ih =>
    intro w A n c xs hx hc hs hI hrow hA hk;have HX:=Am hx;have HF:=Am F;have HI:=Am hI;have HR:=Am hrow;have HNA:=Am hA;have IH:=Am ih;clear hx F hI hrow hA ih;have HBX:=Am (heap_alloc_new w (.cells #[.func (.func f) #[] caps] 78))
    by_cases h2 : n < 2
    · exact sortT_small hf hnm hbd HF.out w A n c xs HX.out HI.out h2
    · have hb1 : decide (n < 2) = false:=dF h2
      have hb2 : decide ((n : Int) < 2) = false:=dF (by omega);obtain ⟨h,hh⟩ : ∃ h,h = n / 2:=⟨_,rfl⟩;have hh1 : 1 ≤ h:=by omega
      have hh2 : h < n:=by omega
      have hdiv : (n : Int) / 2 = (h : Int):=by omega
      have HE:=Am (show sortL lt xs = mergeL lt (sortL lt (xs.take h)) (sortL lt (xs.drop h)) by rw [sortL,dif_neg (by rw [HX.out.1];exact h2),HX.out.1,← hh]);clear hh;obtain ⟨i3,hi3,hz0,hz1,hz2⟩:=info_parts (show (Tryz.prog.info? 40).map (fun i => (i.zero,i.size,i.bytes)) = some (some (.agg #[.int .i64 0,.int .i64 0]),2,16) by kernel_rfl);have hcut:=cut_to (P:=Tryz.prog) 35 40 .i64 Tryz.underlying35 hi3 A n c (h : Int) (by omega) (by omega) hc;rw [Int.toNat_natCast] at hcut;obtain ⟨A2,hcut2,hrd,hbl⟩:=cut_at (P:=Tryz.prog) Et 35 40 .i64 Tryz.underlying35 hi3 hz1 A n c h (by omega);have hnb : Aside0 (some w.heap.size ≠ row):=⟨fun e => absurd (HR.out _ e.symm) (Nat.lt_irrefl _)⟩;have HGd:=Am (gb_any (gT (gA w (.cells #[.func (.func f) #[] caps] 78) none) (gb_drew _ none)) row);have HVd:=Am (HF.out.keep _ _ none (HF.out.keep _ _ none HI.out (gA w (.cells #[.func (.func f) #[] caps] 78) none) (by simp)) (gb_drew _ none) (by simp));have HBd:=Am (blk_kept HBX.out (gb_drew _ none) (by simp));have HXd:=Am ((rd_alloc HX.out (.cells #[.func (.func f) #[] caps] 78)).gb (gb_drew _ none));have HTd:=Am (HXd.out.take_ h (by omega));have HDd:=Am (hrd _ _ hc HXd.out);have HND : Aside0 (∀ ad,A2 = some ad → 0 < n - h → some ad.block ≠ row):=⟨fun z hz _ => by obtain ⟨a0,h1,h2⟩:=hbl z hz;rw [h2];exact HNA.out a0 h1 (by omega)⟩;have HL1:=Am (show (sortL lt (xs.take h)).length = h by rw [sortL_len lt _ _ (Nat.le_refl _),HTd.out.1]);have HL2:=Am (show (sortL lt (xs.drop h)).length = n - h by rw [sortL_len lt _ _ (Nat.le_refl _),HDd.out.1]);have HC1:=Am (IH.out _ A h c (xs.take h) HTd.out (by omega) (by omega) HVd.out (fun g hg => Nat.lt_of_lt_of_le (HR.out g hg) HGd.out.size) (fun ad h1 h2 => HNA.out ad h1 (by omega)) (by omega));clear hi3 hz0 hz1 hz2 hrd hbl HI HBX;go_enter Tryz.func42,Tryz.ntmps42;go_wp2_with fail
      refine start_ (n:=13) (S:=fun w' => w'.cell? ⟨w.heap.size,0,none⟩ = some (.func (.func f) #[] caps)) (ds:=[]) #[nn,nn,nn,nn,nn,nn,nn,nn,nn,nn,nn,nn,nn] (by kernel_rfl) rfl rfl (cell_at HBd.out rfl) (fun hHeld => ?_);refine pu_ 2 (some 16) (bm 13 4) (by kernel_rfl) ?_;refine pu_ 3 (some 17) (bm 13 12) (by kernel_rfl) ?_;refine pu_ 4 (some 18) (bm 13 28) (by kernel_rfl) ?_;refine pu_ 7 (some 21) (bm 13 156) (by kernel_rfl) ?_;refine pu_ 8 (some 22) (bm 13 412) (by kernel_rfl) ?_;refine pu_ 9 (some 23) (bm 13 924) (by kernel_rfl) ?_;refine tk_ 0 (some 14) (bm 13 925) (by kernel_rfl) hHeld ?_;refine tk_ 1 (some 15) (bm 13 927) (by kernel_rfl) hHeld ?_;refine tk_ 6 (some 20) (bm 13 991) (by kernel_rfl) hHeld ?_;refine one_ (i:=5) (N:=some 19) (bm 13 1023) rfl rfl (by kernel_rfl) (by decide) (fun K hK => ?_);refine goes_ Tryz.func42 (by kernel_rfl) rfl #[.agg #[.func (.func f) #[] caps],.slice A h c] (by rfl) rfl rfl (by simp only [List.map_toArray,List.map_cons,List.map_nil];try rfl) ?_;with_reducible refine (HC1.out).mono ?_
      rintro e w3 ⟨v3,rfl,ho,hg,hv⟩;obtain ⟨A3,c3,rfl,hr,hc3,ha⟩:=own_open HL1.out ho;refine ⟨_,rfl,?_⟩;have HG3:=Am (gT HGd.out hg);have HV3:=Am hv;have HB3:=Am (blk_kept HBd.out hg hnb.out);have HR3:=Am hr;have HC3:=Am hc3;have HA3:=Am ha;have HD3:=Am (rd_at_zero HDd.out hg HND.out);have HC2:=Am (IH.out w3 A2 (n - h) (c - h) (xs.drop h) HD3.out (by omega) (by omega) HV3.out (fun g hg => Nat.lt_of_lt_of_le (HR.out g hg) HG3.out.size) HND.out (by omega));clear ho hg hv hr hc3 ha HGd HVd HBd HDd HC1;refine hK.out _ _ (cell_at HB3.out rfl) (fun hHeld => ?_);clear hK K;refine norm_ (a':=?_) ?_ ?_
      rotate_left
      · show Act.put _ (some 19) _ = _
        simp only [NR];rfl
      refine one_ (i:=10) (N:=some 24) (bm 13 2047) rfl rfl (by kernel_rfl) (by decide) (fun K hK => ?_);refine goes_ Tryz.func42 (by kernel_rfl) rfl #[.agg #[.func (.func f) #[] caps],.slice A2 (n - h) (c - h)] (by rfl) rfl rfl (by simp only [List.map_toArray,List.map_cons,List.map_nil];try rfl) ?_;with_reducible refine (HC2.out).mono ?_
      rintro e w4 ⟨v4,rfl,ho,hg,hv⟩;obtain ⟨A4,c4,rfl,hr,hc4,ha⟩:=own_open HL2.out ho;refine ⟨_,rfl,?_⟩;have HN3 : Aside0 (∀ ad,A3 = some ad → 0 < h → some ad.block ≠ row):=⟨fun ad h1 _ e => absurd (HA3.out ad h1) (by have:=HR.out _ e.symm;simp;omega)⟩;have HN4 : Aside0 (∀ ad,A4 = some ad → 0 < n - h → some ad.block ≠ row):=⟨fun ad h1 _ e => absurd (ha ad h1) (by have h2:=HR.out _ e.symm;have h3:=HG3.out.size;omega)⟩;have HG4:=Am (gT HG3.out hg);have HV4:=Am hv;have HB4:=Am (blk_kept HB3.out hg hnb.out);have HR4:=Am hr;have HC4:=Am hc4;have HR34:=Am (rd_at_zero HR3.out hg HN3.out);have HCm:=Am (mergeT_calls hf hnm hbd HF.out w4 A3 A4 h (n - h) c3 c4 _ _ HR34.out HR4.out HC3.out hc4 (by omega) hv (fun g hg => Nat.lt_of_lt_of_le (HR.out g hg) HG4.out.size) HN3.out HN4.out);clear ho hg hv hr hc4 ha HG3 HV3 HB3 HR3 HC2;refine hK.out _ _ (cell_at HB4.out rfl) (fun hHeld => ?_);clear hK K;refine norm_ (a':=?_) ?_ ?_
      rotate_left
      · show Act.put _ (some 24) _ = _
        simp only [NR];rfl
      refine one_ (i:=11) (N:=some 25) (bm 13 4095) rfl rfl (by kernel_rfl) (by decide) (fun K hK => ?_);refine goes_ Tryz.func80 (by kernel_rfl) rfl #[.agg #[.func (.func f) #[] caps],.slice A3 h c3,.slice A4 (n - h) c4] (by rfl) rfl rfl (by simp only [List.map_toArray,List.map_cons,List.map_nil];try rfl) ?_;with_reducible refine (HCm.out).mono ?_
      rintro e w5 ⟨v5,rfl,ho,hg,hv⟩;refine ⟨_,rfl,?_⟩;have HO5:=Am ho;have HG5:=Am (gT HG4.out hg);have HV5:=Am hv;have HB5:=Am (blk_kept HB4.out hg hnb.out);clear ho hg hv HB4 HV4 HCm;refine hK.out _ _ (cell_at HB5.out rfl) (fun hHeld => ?_);clear hK K;refine norm_ (a':=?_) ?_ ?_
      rotate_left
      · show Act.put _ (some 25) _ = _
        simp only [NR];rfl
      refine pu_ 12 (some 4) (bm 13 8191) (by kernel_rfl) ?_;refine done_ (by kernel_rfl) ?_;go_wp2;go_ret;refine ⟨_,rfl,?_,HG5.out,HV5.out⟩;have h5:=own_mono HO5.out HG4.out.size;rw [← HE.out,show h + (n - h) = n by omega] at h5;exact h5

theorem SortT_calls {f : FuncId} {fn : Func} {caps : Array Value} {lt : Int × Int → Int × Int → Bool} {row : Option Nat} {Inv : World → Prop} (hf : Tryz.prog.funcs[f]? = some fn) (hnm : (fn.name == "runtime.NumGoroutine") = false) (hbd : fn.body.isSome = true)
    (F : Order Tryz.prog f caps (fun x : Int × Int => .agg #[.int .i64 x.1,.int .i64 x.2]) lt row Inv)
    (w : World) (A : Option Addr) (n c : Nat) (xs : List (Int × Int)) (hx : Rd Et w A n xs) (hc : n ≤ c) (hs : n * 16 ≤ 140737488355328)
    (hI : Inv w) (hrow : ∀ g,row = some g → g < w.heap.size) (hA : ∀ ad,A = some ad → 0 < n → some ad.block ≠ row) :
    Calls Tryz.prog 18 #[.slice A n c,.func (.func f) #[] caps] w (OwnT w row Inv (sortL lt xs) n):=by
  have H:=Am (sortT_calls hf hnm hbd F n w A n c xs hx hc hs hI hrow hA (Nat.le_refl _));clear hx hI hrow hA;go_enter Tryz.func18,Tryz.ntmps18;go_wp2_with fail
  refine (H.out).mono ?_;rintro e w1 ⟨v,rfl,ho,hg,hv⟩;have HO:=Am ho;have HG:=Am hg;have HV:=Am hv;clear ho hg hv;go_wp2;go_ret;exact ⟨_,rfl,HO.out,HG.out,HV.out⟩
end Go.Proofs.YtodibpddlibneaaGreatDoor.S
namespace Go.Proofs.YtodibpddlibneaaGreatDoor.S
open Go.RowKit YtodibpddlibneaaGreatDoorW.PrintWords H
theorem mergeL_perm {α : Type} (lt : α → α → Bool) : ∀ (k : Nat) (xs ys : List α),xs.length + ys.length = k → (mergeL lt xs ys).Perm (xs ++ ys)
  | _,[],ys,_ => by simp [mergeL]
  | _,x :: xs,[],_ => by simp [mergeL]
  | 0,x :: xs,y :: ys,h => by simp at h
  | k + 1,x :: xs,y :: ys,h => by
    simp only [List.length_cons] at h;rw [mergeL];split
    · refine (List.Perm.cons y (mergeL_perm lt k (x :: xs) ys (by simp only [List.length_cons];omega))).trans ?_
      exact (List.perm_middle (a:=y) (l₁:=x :: xs) (l₂:=ys)).symm
    · exact List.Perm.cons x (mergeL_perm lt k xs (y :: ys) (by simp only [List.length_cons];omega))
theorem sortL_perm {α : Type} (lt : α → α → Bool) : ∀ (k : Nat) (l : List α),l.length ≤ k → (sortL lt l).Perm l
  | 0,l,h => by rw [sortL,dif_pos (by omega)]
  | k + 1,l,h => by
    rw [sortL];split
    · exact List.Perm.refl _
    · refine (mergeL_perm lt _ _ _ rfl).trans ?_
      refine (List.Perm.append (sortL_perm lt k _ (by rw [List.length_take];omega)) (sortL_perm lt k _ (by rw [List.length_drop];omega))).trans ?_;rw [List.take_append_drop]
/-- By priority,falling,then by number. -/
def Rk (p q : Int × Int) : Prop:=q.2 < p.2 ∨ (p.2 = q.2 ∧ p.1 < q.1)
def ltK (p q : Int × Int) : Bool:=decide (q.2 < p.2)
theorem merge_rises : ∀ (k : Nat) (xs ys : List (Int × Int)),xs.length + ys.length = k → xs.Pairwise Rk → ys.Pairwise Rk → (∀ x ∈ xs,∀ y ∈ ys,x.1 < y.1) → (mergeL ltK xs ys).Pairwise Rk
  | _,[],ys,_,_,hy,_ => by simpa [mergeL] using hy
  | _,x :: xs,[],_,hx,_,_ => by simpa [mergeL] using hx
  | 0,x :: xs,y :: ys,h,_,_,_ => by simp at h
  | k + 1,x :: xs,y :: ys,h,hx,hy,hn => by
    simp only [List.length_cons] at h;obtain ⟨x1,x2⟩:=List.pairwise_cons.1 hx;obtain ⟨y1,y2⟩:=List.pairwise_cons.1 hy;rw [mergeL]
    by_cases c : ltK y x = true
    · rw [if_pos c]
      have c' : x.2 < y.2:=by simpa [ltK] using c
      refine List.pairwise_cons.2 ⟨fun z hz => ?_,merge_rises k (x :: xs) ys (by simp only [List.length_cons];omega) hx y2 (fun a ha b hb => hn a ha b (List.mem_cons_of_mem _ hb))⟩;have hz':=(mergeL_perm ltK _ (x :: xs) ys rfl).mem_iff.1 hz;rcases List.mem_append.1 hz' with hz' | hz'
      · rcases List.mem_cons.1 hz' with rfl | hz'
        · exact .inl c'
        · rcases x1 z hz' with h1 | ⟨h1,_⟩
          · exact .inl (by omega)
          · exact .inl (by omega)
      · exact y1 z hz'
    · rw [if_neg c]
      have c' : y.2 ≤ x.2:=by simpa [ltK] using c
      refine List.pairwise_cons.2 ⟨fun z hz => ?_,merge_rises k xs (y :: ys) (by simp only [List.length_cons];omega) x2 hy (fun a ha b hb => hn a (List.mem_cons_of_mem _ ha) b hb)⟩;have hz':=(mergeL_perm ltK _ xs (y :: ys) rfl).mem_iff.1 hz;rcases List.mem_append.1 hz' with hz' | hz'
      · exact x1 z hz'
      · have hnum:=hn x (by simp) z hz'
        rcases List.mem_cons.1 hz' with rfl | hz'
        · by_cases e : x.2 = z.2
          · exact .inr ⟨e,hnum⟩
          · exact .inl (by omega)
        · rcases y1 z hz' with h1 | ⟨h1,_⟩
          · exact .inl (by omega)
          · by_cases e : x.2 = z.2
            · exact .inr ⟨e,hnum⟩
            · exact .inl (by omega)
theorem sort_rises : ∀ (k : Nat) (l : List (Int × Int)),l.length ≤ k → l.Pairwise (fun p q => p.1 < q.1) → (sortL ltK l).Pairwise Rk
  | 0,l,h,_ => by
    obtain rfl : l = []:=List.eq_nil_of_length_eq_zero (by omega);rw [sortL,dif_pos (by decide)];simp
  | k + 1,l,h,hp => by
    rw [sortL];split
    · rename_i h2
      match l,h2 with
      | [],_ => simp
      | [a],_ => simp
    · have hs:=List.take_append_drop (l.length / 2) l
      have ht:=hp.sublist (List.take_sublist (l.length / 2) l);have hd:=hp.sublist (List.drop_sublist (l.length / 2) l);refine merge_rises _ _ _ rfl (sort_rises k _ (by rw [List.length_take];omega) ht) (sort_rises k _ (by rw [List.length_drop];omega) hd) (fun x hx y hy => ?_);have hx':=(sortL_perm ltK _ _ (Nat.le_refl _)).mem_iff.1 hx;have hy':=(sortL_perm ltK _ _ (Nat.le_refl _)).mem_iff.1 hy;rw [← hs] at hp;exact (List.pairwise_append.1 hp).2.2 x hx' y hy'
end Go.Proofs.YtodibpddlibneaaGreatDoor.S
namespace Go.Proofs.YtodibpddlibneaaGreatDoor.T
open Go.RowKit YtodibpddlibneaaGreatDoorW.PrintWords YtodibpddlibneaaGreatDoorW.PrintLast H Q Go.ChangeShapes Go.WideShapes Go.Deep
set_option linter.unusedVariables false
set_option linter.unusedSimpArgs false
def Accs (W : World) (A : Option Addr) (n : Nat) (ls : List Acc) : Prop:=Rd Ec W A n ls ∧ AccOk ls ∧ AccU ls
section
variable {H : Type} {enc : TypeId × Value → H} {P : Program} {w : World} {base : Nat} {spare : Nat → Bool} {held : Bool}
theorem open_fieldsA {t e : TypeId} {fs : Array Field} {fuel : Nat} {cs : List Value} {x : DataW H × List MemPlace} (ht : P.underlying t = some (.slice e)) (he : P.underlying e = some (.struct fs))
    (hone : oneCellFields P fs = true) (hC : P.cellsOf e = fs.size) (h : DataW.trod enc P w base spare held fuel t cs = some x) :
    (cs = [.slice none 0 0] ∧ x = (.nil,[])) ∨
    ∃ (a : Addr) (len cap m : Nat) (D : Nat → DataW H) (Pl : Nat → List MemPlace),cs = [.slice (some a) len cap] ∧ len ≤ cap ∧ cap ≤ maxLen ∧ len ≤ m ∧
      x.1 = .slice ((List.range len).map D) ((List.range (m - len)).map fun j => D (len + j)) ∧
      ∀ i,i < m → ∃ n : Nat,∀ (j : Nat) (f : Field),fs[j]? = some f → ∃ (v : Value) (y : DataW H × List MemPlace),w.cell? (a.add (i * fs.size + j)) = some v ∧ DataW.trod enc P w base spare held n f.type [v] = some y:=by
  rcases open_slice ht h with h0 | ⟨a,len,cap,m,n,D,Pl,hcs,hb,hl,hm,hmm,hx,hi⟩
  · exact .inl h0
  · have hml : len ≤ m:=by rw [hmm];split <;> omega
    refine .inr ⟨a,len,cap,m,D,Pl,hcs,hl,hm,hml,by rw [hx],fun i him => ?_⟩;obtain ⟨cs',hc,ht'⟩:=hi i him;rw [hC] at hc;obtain ⟨ys,n',hn',hy,hlen,hyl,hf⟩:=DataW.trod_struct he ht';obtain ⟨_,hcl,hat⟩:=World.cells?_some hc;refine ⟨n',fun j f hj => ?_⟩;obtain ⟨ho,hk⟩:=hone_of hone j f hj;have hjl : j < fs.size:=(Array.getElem?_eq_some_iff.1 hj).1;have hcell:=hat j hjl;have hv : cs'[j]? = some (cs'[j]'(by omega)):=lG (by omega);have h1:=hf j f hj;rw [ho,hk] at h1;have hone' : (cs'.drop j).take 1 = [cs'[j]'(by omega)]:=by
      rw [List.drop_eq_getElem_cons (by omega)];rfl
    rw [hone'] at h1;have hys : ys[j]? = some (ys[j]'(by omega)):=lG (by omega);refine ⟨_,_,?_,h1.trans hys⟩;rw [← Go.Deep.add_add,hcell,hv]
end
theorem open_accs {H : Type} {enc : TypeId × Value → H} {W : World} {base : Nat} {spare : Nat → Bool} {held : Bool} {a : Option Addr} {len cap : Nat} {d : DataW H} {ps : List MemPlace} {ts : List TypeId} {ds : List (DataW H)} {j : Nat}
    (hsz : (DataW.weightsEach Tryz.prog ts ds).all (· ≤ reachBytes) = true) (ht : ts[j]? = some 24) (hd : ds[j]? = some d) (h : DataW.Trod enc Tryz.prog W base spare held 24 (.slice a len cap) d ps) :
    ∃ ls,Accs W a len ls ∧ len ≤ cap ∧ len * 48 ≤ 140737488351232:=by
  obtain ⟨fuel,hf⟩:=h;have hf1 : DataW.trod enc Tryz.prog W base spare held fuel 24 [.slice a len cap] = some (d,ps):=by simpa [Value.cells] using hf
  rcases open_fieldsA Tryz.underlying24 Tryz.underlying31 (by kernel_rfl) (by kernel_rfl) hf1 with ⟨hcs,_⟩ | ⟨x,l,c,m,D,Pl,hcs,hl,hm,hml,hx,hi⟩
  · simp at hcs
    obtain ⟨rfl,rfl,rfl⟩:=hcs;exact ⟨[],⟨Rd.nil _ _ _,(fun a ha => by cases ha),fun a ha => by cases ha⟩,Nat.le_refl _,by omega⟩
  · simp at hcs
    obtain ⟨rfl,rfl,rfl⟩:=hcs;have hx : d = .slice ((List.range len).map D) ((List.range (m - len)).map fun j => D (len + j)):=hx;have hv : ∀ i,∃ q : Acc,i < len → ((q.nm.size ≤ maxLen ∧ (Lit.int .i64 q.par).wf = true) ∧ U q.us) ∧ ∀ k v,(Ec.enc q)[k]? = some v → W.cell? (x.add (i * 5 + k)) = some v:=fun i => by
      by_cases him : i < len
      · obtain ⟨n,hf⟩:=hi i (by omega)
        obtain ⟨v0,y0,c0,t0⟩:=hf 0 _ rfl;obtain ⟨v1,y1,c1,t1⟩:=hf 1 _ rfl;obtain ⟨v2,y2,c2,t2⟩:=hf 2 _ rfl;obtain ⟨v3,y3,c3,t3⟩:=hf 3 _ rfl;obtain ⟨v4,y4,c4,t4⟩:=hf 4 _ rfl;obtain ⟨b0,e0,_,s0⟩:=DataW.trod_string Tryz.underlying9 t0;obtain ⟨b1,e1,_,w1⟩:=DataW.trod_int Tryz.underlying3 t1;obtain ⟨b2,e2,_,_⟩:=DataW.trod_int Tryz.underlying3 t2;obtain ⟨b3,e3,_⟩:=DataW.trod_bool Tryz.underlying4 t3;obtain ⟨b4,e4,_,w4⟩:=DataW.trod_int Tryz.underlying29 t4;simp at e0 e1 e2 e3 e4;subst e0 e1 e2 e3 e4;refine ⟨⟨b0,b1,b2,b3,b4⟩,fun _ => ⟨⟨⟨s0,w1⟩,wf_u w4⟩,fun k v hk => ?_⟩⟩;have hk5 : k < 5:=by have:=(List.getElem?_eq_some_iff.1 hk).1;simpa [Ec] using this
        have : k = 0 ∨ k = 1 ∨ k = 2 ∨ k = 3 ∨ k = 4:=by omega
        rcases this with rfl | rfl | rfl | rfl | rfl <;> (simp [Ec] at hk;subst hk;assumption)
      · exact ⟨⟨ByteArray.empty,0,0,false,0⟩,fun h => absurd h him⟩
    let f : Nat → Acc:=fun i => Classical.choose (hv i)
    have hf':=fun i => Classical.choose_spec (hv i)
    refine ⟨(List.range len).map f,⟨⟨by simp,by simp only [maxLen] at hm;omega,fun _ => ⟨x,rfl,fun i v hiv => ?_⟩⟩,fun q hq => ?_,fun q hq => ?_⟩,hl,?_⟩
    · have hi5 : i < len * 5:=by
        have:=(List.getElem?_eq_some_iff.1 hiv).1;rw [flat_len] at this;simpa [Ec] using this
      obtain ⟨q,hq⟩ : ∃ q,q = i / 5:=⟨_,rfl⟩;obtain ⟨r,hr⟩ : ∃ r,r = i % 5:=⟨_,rfl⟩;have ei : i = q * 5 + r:=by omega
      have hq1 : q < len:=by omega
      have hat : ((List.range len).map f)[q]? = some (f q):=by simp [hq1]
      have e:=flat_at Ec _ q r (f q) hat (by show r < 5;omega);rw [ei] at hiv;have h2 : (Ec.enc (f q))[r]? = some v:=e.symm.trans hiv;rw [ei];exact (hf' q hq1).2 r v h2
    · obtain ⟨i,hi1,rfl⟩:=List.mem_map.1 hq
      exact (hf' i (List.mem_range.1 hi1)).1.1
    · obtain ⟨i,hi1,rfl⟩:=List.mem_map.1 hq
      exact (hf' i (List.mem_range.1 hi1)).1.2
    · subst hx
      have z:=sized_slice hsz ht hd Tryz.underlying24;rw [show Tryz.prog.bytesOf 31 = 48 by kernel_rfl] at z;simp only [List.length_map,List.length_range] at z;exact Nat.le_trans (Nat.mul_le_mul_right _ (by omega)) z
end Go.Proofs.YtodibpddlibneaaGreatDoor.T
namespace Go.Proofs.YtodibpddlibneaaGreatDoor.S
open Go.RowKit YtodibpddlibneaaGreatDoorW.PrintWords H T
set_option linter.unusedVariables false
set_option linter.unusedSimpArgs false
/-- A job: its numbers,and its nodes' slice,which reads as xs. -/
structure JobV where
  ac : Int
  no : Int
  li : Int
  su : Int
  st : Int
  sta : Int
  en : Int
  A : Option Addr
  c : Nat
  xs : List Int
def Eb : Enc JobV:=⟨8,fun j => [.int .i64 j.ac,.int .i64 j.no,.int .i64 j.li,.int .i64 j.su,.int .i64 j.st,.int .i64 j.sta,.int .i64 j.en,.slice j.A j.xs.length j.c],fun _ => rfl,fun _ v hv => by
  simp only [List.mem_cons,List.not_mem_nil,or_false] at hv;rcases hv with rfl | rfl | rfl | rfl | rfl | rfl | rfl | rfl <;> rfl,by decide⟩
theorem job_cells {w : World} {ad : Addr} {n : Nat} {js : List JobV} (h : Rd Eb w (some ad) n js) {i : Nat} {x : JobV} (hx : js[i]? = some x) :
    w.cell? (ad.add (i * 8)) = some (.int .i64 x.ac) ∧
      w.cell? ⟨(ad.add (i * 8)).block,(ad.add (i * 8)).off + 1,none⟩ = some (.int .i64 x.no) ∧
      w.cell? ⟨(ad.add (i * 8)).block,(ad.add (i * 8)).off + 2,none⟩ = some (.int .i64 x.li) ∧
      w.cell? ⟨(ad.add (i * 8)).block,(ad.add (i * 8)).off + 3,none⟩ = some (.int .i64 x.su) ∧
      w.cell? ⟨(ad.add (i * 8)).block,(ad.add (i * 8)).off + 4,none⟩ = some (.int .i64 x.st) ∧
      w.cell? ⟨(ad.add (i * 8)).block,(ad.add (i * 8)).off + 5,none⟩ = some (.int .i64 x.sta) ∧
      w.cell? ⟨(ad.add (i * 8)).block,(ad.add (i * 8)).off + 6,none⟩ = some (.int .i64 x.en) ∧
      w.cell? ⟨(ad.add (i * 8)).block,(ad.add (i * 8)).off + 7,none⟩ = some (.slice x.A x.xs.length x.c):=by
  have hj : i < n:=by have:=(List.getElem?_eq_some_iff.1 hx).1;rw [h.1] at this;exact this
  obtain ⟨a,y,e,hy,hc⟩:=h.at_ i hj;obtain rfl : y = x:=oI (hy.symm.trans hx);obtain rfl : ad = a:=oI e;have off : ∀ k : Nat,0 < k → ad.add (i * 8 + k) = ⟨(ad.add (i * 8)).block,(ad.add (i * 8)).off + k,none⟩:=fun k hk => by
    rw [← H.add_add]
    cases k with
    | zero => omega
    | succ k => rfl
  refine ⟨?_,?_,?_,?_,?_,?_,?_,?_⟩
  · have:=hc 0 _ rfl;simpa [Eb] using this
  · rw [← off 1 (by omega)];exact hc 1 _ rfl
  · rw [← off 2 (by omega)];exact hc 2 _ rfl
  · rw [← off 3 (by omega)];exact hc 3 _ rfl
  · rw [← off 4 (by omega)];exact hc 4 _ rfl
  · rw [← off 5 (by omega)];exact hc 5 _ rfl
  · rw [← off 6 (by omega)];exact hc 6 _ rfl
  · rw [← off 7 (by omega)];exact hc 7 _ rfl
/-- What a job's numbers are,and how its nodes read. -/
structure JobOk (W : World) (j : JobV) : Prop where
  ac : (Lit.int .i64 j.ac).wf = true
  no : (Lit.int .i64 j.no).wf = true
  li : (Lit.int .i64 j.li).wf = true
  su : (Lit.int .i64 j.su).wf = true
  st : (Lit.int .i64 j.st).wf = true
  sta : (Lit.int .i64 j.sta).wf = true
  en : (Lit.int .i64 j.en).wf = true
  rd : (Kd.int .i64).C W j.A j.xs.length j.xs
  le : j.xs.length ≤ j.c
def Jobs (W : World) (J : Option Addr) (n : Nat) (js : List JobV) : Prop:=Rd Eb W J n js ∧ ∀ j ∈ js,JobOk W j
/-- A state. -/
structure StV where
  a0 : Int
  a1 : Int
  a2 : Int
  a3 : Int
  a4 : Int
  a5 : Int
  a6 : Int
  a7 : Int
  now : Int
  A : Option Addr
  n : Nat
  c : Nat
  ls : List Acc
  J : Option Addr
  m : Nat
  d : Nat
  js : List JobV
  ho : Int
def StV.val (s : StV) : Value:=.agg #[.int .i64 s.a0,.int .i64 s.a1,.int .i64 s.a2,.int .i64 s.a3,.int .i64 s.a4,.int .i64 s.a5,.int .i64 s.a6,.int .i64 s.a7,.int .i64 s.now,.slice s.A s.n s.c,.slice s.J s.m s.d,.int .i64 s.ho]
structure StOk (W : World) (s : StV) : Prop where
  accs : Accs W s.A s.n s.ls
  nc : s.n ≤ s.c
  n48 : s.n * 48 ≤ 140737488351232
  jobs : Jobs W s.J s.m s.js
  md : s.m ≤ s.d
  m80 : s.m * 80 ≤ 140737488351232
  now : (Lit.int .i64 s.now).wf = true
  ho : (Lit.int .i64 s.ho).wf = true
theorem JobOk.below {W W' : World} {j : JobV} (h : JobOk W j) (hb : Below W.heap.size W W') : JobOk W' j:=⟨h.ac,h.no,h.li,h.su,h.st,h.sta,h.en,Kd.C_below h.rd hb,h.le⟩
theorem StOk.below {W W' : World} {s : StV} (h : StOk W s) (hb : Below W.heap.size W W') : StOk W' s:=
  ⟨⟨h.accs.1.below hb,h.accs.2⟩,h.nc,h.n48,⟨h.jobs.1.below hb,fun j hj => (h.jobs.2 j hj).below hb⟩,h.md,h.m80,h.now,h.ho⟩
/-- A job that is ranked: pending,of an account that is there. -/
def isP (fs : List Int) (j : JobV) : Bool:=j.st == 1 && decide (0 ≤ j.ac) && decide (j.ac < (fs.length : Int))
/-- The pending ones among the first i,with their priorities. -/
def pendTo (js : List JobV) (fs : List Int) (P : JobV → Int → Int) : Nat → List (Int × Int)
  | 0 => []
  | i + 1 => pendTo js fs P i ++ (match js[i]? with
    | some j => if isP fs j then [((i : Int),P j (rd fs j.ac))] else []
    | none => [])
theorem pend_yes {js : List JobV} {fs : List Int} {P : JobV → Int → Int} {i : Nat} {j : JobV} (h : js[i]? = some j) (hp : isP fs j = true) : pendTo js fs P (i + 1) = pendTo js fs P i ++ [((i : Int),P j (rd fs j.ac))]:=by
  rw [pendTo,h];simp [hp]
theorem pend_no {js : List JobV} {fs : List Int} {P : JobV → Int → Int} {i : Nat} {j : JobV} (h : js[i]? = some j) (hp : isP fs j = false) : pendTo js fs P (i + 1) = pendTo js fs P i:=by
  rw [pendTo,h];simp [hp]
theorem pend_mem {js : List JobV} {fs : List Int} {P : JobV → Int → Int} : ∀ (k : Nat) {p : Int × Int},p ∈ pendTo js fs P k → ∃ (i : Nat) (j : JobV),i < k ∧ p.1 = (i : Int) ∧ js[i]? = some j ∧ isP fs j = true ∧ p.2 = P j (rd fs j.ac)
  | 0,p,h => by simp [pendTo] at h
  | k + 1,p,h => by
    rw [pendTo] at h;rcases List.mem_append.1 h with h | h
    · obtain ⟨i,j,h1,h2⟩:=pend_mem k h
      exact ⟨i,j,by omega,h2⟩
    · cases hj : js[k]? with
      | none => rw [hj] at h;simp at h
      | some j =>
        rw [hj] at h
        by_cases hp : isP fs j = true
        · simp [hp] at h
          subst h;exact ⟨k,j,by omega,rfl,hj,hp,rfl⟩
        · simp [hp] at h
theorem pend_len {js : List JobV} {fs : List Int} {P : JobV → Int → Int} : ∀ k : Nat,(pendTo js fs P k).length ≤ k
  | 0 => by simp [pendTo]
  | k + 1 => by
    have:=pend_len (js:=js) (fs:=fs) (P:=P) k;rw [pendTo,List.length_append]
    cases hj : js[k]? with
    | none => simp;omega
    | some j =>
      simp only;split <;> simp <;> omega
theorem pend_nums {js : List JobV} {fs : List Int} {P : JobV → Int → Int} : ∀ k : Nat,(pendTo js fs P k).Pairwise (fun p q => p.1 < q.1)
  | 0 => by simp [pendTo]
  | k + 1 => by
    rw [pendTo];refine List.pairwise_append.2 ⟨pend_nums k,?_,fun p hp q hq => ?_⟩
    · cases hj : js[k]? with
      | none => simp
      | some j => simp only;split <;> simp
    · obtain ⟨i,j,h1,h2,-⟩:=pend_mem k hp
      cases hj : js[k]? with
      | none => rw [hj] at hq;simp at hq
      | some j' =>
        rw [hj] at hq;simp only at hq;split at hq
        · simp at hq;subst hq;simp only;omega
        · simp at hq
/-- The ranks. -/
def ranksV (js : List JobV) (fs : List Int) (P : JobV → Int → Int) : List (Int × Int):=sortL ltK (pendTo js fs P js.length)
structure RanksOk (l : List (Int × Int)) (js : List JobV) (fs : List Int) (P : JobV → Int → Int) : Prop where
  mem : ∀ p ∈ l,∃ (i : Nat) (j : JobV),p.1 = (i : Int) ∧ js[i]? = some j ∧ isP fs j = true ∧ p.2 = P j (rd fs j.ac)
  nd : (l.map Prod.fst).Nodup
  rise : l.Pairwise Rk
  len : l.length = (pendTo js fs P js.length).length
theorem ranks_ok (js : List JobV) (fs : List Int) (P : JobV → Int → Int) : RanksOk (ranksV js fs P) js fs P:=by
  have hp:=sortL_perm ltK _ (pendTo js fs P js.length) (Nat.le_refl _);have hn:=pend_nums (js:=js) (fs:=fs) (P:=P) js.length;refine ⟨fun p h => ?_,?_,sort_rises _ _ (Nat.le_refl _) hn,hp.length_eq⟩
  · obtain ⟨i,j,-,h2⟩:=pend_mem _ (hp.mem_iff.1 h)
    exact ⟨i,j,h2⟩
  · refine (hp.map Prod.fst).nodup_iff.2 ?_
    rw [List.nodup_iff_pairwise_ne,List.pairwise_map];exact hn.imp (fun h => by omega)
end Go.Proofs.YtodibpddlibneaaGreatDoor.S
namespace Go.Proofs.YtodibpddlibneaaGreatDoor.Q
open Go.RowKit GSH YtodibpddlibneaaGreatDoorW.PrintWords YtodibpddlibneaaGreatDoorW.PrintLast YtodibpddlibneaaGreatDoorW.PrintMore
set_option linter.unusedVariables false
set_option linter.unusedSimpArgs false
theorem check_all {N Q L A F S P H : Int} (c : checkV N Q L A F S P H = 0) : Bds N Q L A F S P H ∧ A * 1099511627776 + fsV N F S < 4611686018427387904:=by
  unfold checkV at c
  by_cases d : inR N Q L A F S P H = true
  · rw [if_pos d] at c
    by_cases e : mostV N P H > 2147483648
    · rw [if_pos e] at c
      omega
    · rw [if_neg e] at c
      by_cases f : A * 1099511627776 + fsV N F S ≥ 4611686018427387904
      · rw [if_pos f] at c
        omega
      · exact ⟨bds (inR_cfg d),by omega⟩
  · rw [if_neg d] at c
    omega
/-- What a priority comes to. -/
def prioV (N Q L A F S P H now sub nod fac : Int) : Int:=
  if checkV N Q L A F S P H = 0 ∧ 0 ≤ now ∧ now ≤ 1099511627776 ∧ 0 ≤ sub ∧ sub ≤ now ∧ 1 ≤ nod ∧ nod ≤ N ∧ fac ≤ 9223372036854775808 then A * (now - sub) + F * fac / 9223372036854775808 + S * nod else 0
theorem fair_bd {F fac : Int} (f0 : 0 ≤ F) (f1 : F ≤ 1048576) (g0 : 0 ≤ fac) (g1 : fac ≤ 9223372036854775808) : 0 ≤ F * fac ∧ F * fac ≤ 1048576 * 9223372036854775808 ∧ F * fac ≤ F * 9223372036854775808:=
  ⟨Int.mul_nonneg f0 g0,Int.le_trans (Int.mul_le_mul_of_nonneg_right f1 g0) (Int.mul_le_mul_of_nonneg_left g1 (by omega)),Int.mul_le_mul_of_nonneg_left g1 f0⟩
theorem sum_bd {N Q L A F S P H now sub nod fac : Int} (B : Bds N Q L A F S P H) (hs : A * 1099511627776 + fsV N F S < 4611686018427387904) (s0 : 0 ≤ sub) (s1 : sub ≤ now) (s2 : now ≤ 1099511627776) (n0 : 1 ≤ nod) (n1 : nod ≤ N) (g0 : 0 ≤ fac) (g1 : fac ≤ 9223372036854775808) :
    0 ≤ A * (now - sub) ∧ A * (now - sub) ≤ A * 1099511627776 ∧ 0 ≤ S * nod ∧ S * nod ≤ S * N ∧ 0 ≤ F * fac / 9223372036854775808 ∧ F * fac / 9223372036854775808 ≤ F ∧ A * 1099511627776 + F + S * N < 4611686018427387904:=by
  have f0:=B.f0;have f1:=B.f1;have a0:=B.a0;have z0:=B.s0;obtain ⟨p0,p1,p2⟩:=fair_bd f0 f1 g0 g1;refine ⟨Int.mul_nonneg (by omega) (by omega),Int.mul_le_mul_of_nonneg_left (by omega) (by omega),Int.mul_nonneg z0 (by omega),Int.mul_le_mul_of_nonneg_left n1 z0,by omega,by omega,?_⟩;unfold fsV at hs;omega
/-- The shift of the product,as a number. -/
theorem sh_prio {z : Int} (h0 : 0 ≤ z) (h1 : z ≤ 1048576 * 9223372036854775808) : (wide_Shr.f (z / 18446744073709551616) (z % 18446744073709551616) 63) = some (z / 18446744073709551616 / 9223372036854775808,z / 9223372036854775808):=by
  have hsh:=wshr (h:=z / 18446744073709551616) (l:=z % 18446744073709551616) ⟨by omega,by omega⟩ ⟨by omega,by omega⟩ 63 (by omega) (by omega);rw [show ((63 : Nat) : Int) = 63 from rfl] at hsh;rw [hsh,shrV,show (2 : Int) ^ (64 - 63) = 2 from rfl,show (2 : Int) ^ 63 = 9223372036854775808 from rfl];have e : (z / 18446744073709551616 * 2) % 18446744073709551616 + z % 18446744073709551616 / 9223372036854775808 = z / 9223372036854775808:=by omega
  rw [e]
theorem end_prio {u z v d : Int} (A S nod : Int) (e1 : A * d = u) (e2 : S * nod = v) (h0 : 0 ≤ d) (h1 : d < 9223372036854775808) (u0 : 0 ≤ u) (z0 : 0 ≤ z) (v0 : 0 ≤ v) (hs : u + z + v < 9223372036854775808) :
    wrap64 (wrap64 (wrap64 (A * wrap64 d) + wrap64 z) + wrap64 (S * nod)) = A * d + z + S * nod:=by
  rw [wrap64_in (x:=d) (by omega) (by omega),e1,e2,wrap64_in (x:=u) (by omega) (by omega),wrap64_in (x:=z) (by omega) (by omega),wrap64_in (x:=u + z) (by omega) (by omega),wrap64_in (x:=v) (by omega) (by omega),wrap64_in (by omega) (by omega)]
theorem bind_of {α β : Type} {x : Option α} {a : α} {f : α → Option β} {r : Option β} (h : x = some a) (e : f a = r) : x.bind f = r:=by rw [h];exact e
end Go.Proofs.YtodibpddlibneaaGreatDoor.Q
