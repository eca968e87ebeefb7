/- The texts of this claim, put together by program, what it does not name left out: part 7. Conditions: each theorem's own. -/
import Derived.Test.YtbhijfbjdbjpbaaGreatDoorZ6
set_option maxHeartbeats 8000000
set_option maxRecDepth 100000
namespace Go.Proofs.YtbhijfbjdbjpbaaGreatDoor.GSH
open Go.RowKit Go.Proofs.YtbhijfbjdbjpbaaGreatDoorW.PrintWords Go.Proofs.YtbhijfbjdbjpbaaGreatDoorW.PrintLast Go.Proofs.YtbhijfbjdbjpbaaGreatDoorW.PrintMore
attribute [local go_sem] max2_int min2_int max_two min_two max_three min_three max_four min_four   -- for this text's walks alone
set_option linter.unusedVariables false
set_option linter.unusedSimpArgs false
mutual
def backfillref13_Exponent.j0 : Nat → Int → Int → Int → Bool → Option (Int)
 | 0,_,_,_,_ => none
 | k + 1,x0,x1,x2,x3 => (backfillref01_Mul.f x0 x2).bind fun bt439 => ((backfillref01_Div.f k bt439.1 bt439.2 x1).bind fun bt441 => (if x3 = true then (backfillref13_Exponent.j1 k x3 (decide (bt441.2.2.1 > 0)) bt441.1 bt441.2.1) else (backfillref13_Exponent.j1 k x3 false bt441.1 bt441.2.1)))
def backfillref13_Exponent.j1 : Nat → Bool → Bool → Int → Int → Option (Int)
 | 0,_,_,_,_ => none
 | k + 1,x3,x33,x446000,x446001 => if x33 = true then ((backfillref01_Of.f 1).bind fun bt446 => ((backfillref01_Add.f x446000 x446001 bt446.1 bt446.2).bind fun bt448 => (backfillref13_Exponent.j2 k x3 bt448.1 bt448.2.1))) else (backfillref13_Exponent.j2 k x3 x446000 x446001)
def backfillref13_Exponent.j2 : Nat → Bool → Int → Int → Option (Int)
 | 0,_,_,_ => none
 | k + 1,x3,x446000,x446001 => (backfillref01_Div.f k x446000 x446001 2147483648).bind fun bt451 => (if x3 = true then (backfillref13_Exponent.j3 k (decide (bt451.2.2.1 > 0)) bt451.1 bt451.2.1) else (backfillref13_Exponent.j3 k false bt451.1 bt451.2.1))
def backfillref13_Exponent.j3 : Nat → Bool → Int → Int → Option (Int)
 | 0,_,_,_ => none
 | k + 1,x50,x456000,x456001 => if x50 = true then ((backfillref01_Of.f 1).bind fun bt456 => ((backfillref01_Add.f x456000 x456001 bt456.1 bt456.2).bind fun bt458 => (if bt458.1 > 0 then (some 18446744073709551615) else (some bt458.2.1)))) else (if x456000 > 0 then (some 18446744073709551615) else (some x456001))
end
def backfillref13_Exponent.f (k : Nat) (a0 : Int) (a1 : Int) (a2 : Int) (a3 : Bool) : Option (Int):=(backfillref01_Mul.f a1 4096).bind fun bt434 => ((backfillref01_Of.f a2).bind fun bt436 => ((backfillref01_Cmp.f k bt434.1 bt434.2 bt436.1 bt436.2).bind fun t438 => (if t438 < 0 then (backfillref13_Exponent.j0 k a0 1 4096 a3) else (backfillref13_Exponent.j0 k a0 a1 a2 a3))))
theorem backfillref13_Exponent.calls (k : Nat) (a0 : Int) (a1 : Int) (a2 : Int) (a3 : Bool) (r : Int) (w : World) (h : backfillref13_Exponent.f k a0 a1 a2 a3 = some r) :
  Calls Tryz.prog 33 #[.int .u64 a0,.int .u64 a1,.int .u64 a2,.bool a3] w fun e w' => e = .returned (.int .u64 r) ∧ Below w.heap.size w w':=by
 have hu82:=Tryz.underlying82
 have HB:=Am (Below.refl w.heap.size w)
 have H : ((backfillref01_Mul.f a1 4096).bind fun bt434 => ((backfillref01_Of.f a2).bind fun bt436 => ((backfillref01_Cmp.f k bt434.1 bt434.2 bt436.1 bt436.2).bind fun t438 => (if t438 < 0 then (backfillref13_Exponent.j0 k a0 1 4096 a3) else (backfillref13_Exponent.j0 k a0 a1 a2 a3))))) = some r:=h
 clear h;obtain ⟨⟨t434,t435⟩,A5,H⟩:=bnd H;(try dsimp only at H);obtain ⟨⟨t436,t437⟩,A6,H⟩:=bnd H;(try dsimp only at H);obtain ⟨t438,A7,H⟩:=bnd H;(try dsimp only at H)
 have HC8:=Aside0.mk H
 clear H
 go_enter Tryz.func33,Tryz.ntmps33
 go_upto_if 19 with (first | ((with_reducible refine gate_callee (f:=57) rfl ?_);refine goesL_ (some 15) rfl rfl Tryz.func57 (by kernel_rfl) rfl #[.int .u64 a1,.int .u64 4096] rfl aA ?_;(with_reducible refine (backfillref01_Mul.calls a1 4096 t434 t435 _ A5.out).mono ?_);rintro e w9 ⟨rfl,hb⟩;refine ⟨_,rfl,?_⟩;replace HB:=Am (below_step bA hb);(try clear hb)) | ((with_reducible refine gate_callee (f:=63) rfl ?_);refine goesL_ (some 17) rfl rfl Tryz.func63 (by kernel_rfl) rfl #[.int .u64 a2] rfl aA ?_;(with_reducible refine (backfillref01_Of.calls a2 t436 t437 _ A6.out).mono ?_);rintro e w10 ⟨rfl,hb⟩;refine ⟨_,rfl,?_⟩;replace HB:=Am (below_step bA hb);(try clear hb)) | ((with_reducible refine gate_callee (f:=52) rfl ?_);refine goesL_ (some 18) rfl rfl Tryz.func52 (by kernel_rfl) rfl #[.agg #[.int .u64 t434,.int .u64 t435],.agg #[.int .u64 t436,.int .u64 t437]] rfl aA ?_;(with_reducible refine (backfillref01_Cmp.calls k t434 t435 t436 t437 t438 _ A7.out).mono ?_);rintro e w11 ⟨rfl,hb⟩;refine ⟨_,rfl,?_⟩;replace HB:=Am (below_step bA hb);(try clear hb)))
 (try simp only [Act.put,List.setIfInBounds_toArray,List.set_cons_zero,List.set_cons_succ])
 go_cut [1,2] (fun v1 v2 wc => ∃ (kq : Nat) (x1_7 : Int) (x2_7 : Int),v1 = .int .u64 x1_7 ∧ v2 = .int .u64 x2_7 ∧ Aside0 (backfillref13_Exponent.j0 kq a0 x1_7 x2_7 a3 = some r) ∧ Aside0 (kq ≤ k) ∧ Aside0 (Below w.heap.size w wc))
 case first =>
  have H:=HC8.out
  clear HC8
  by_cases c12 : t438 < 0
  ·rw [if_pos c12] at H
   have c12b0 : decide (t438 < 0) = true:=decide_eq_true c12
   clear c12
   (first | rw [c12b0] | (simp only [i64_w,i32_w];rw [c12b0]) | skip)
   have H':=Aside0.mk H
   clear H
   go_wp2
   go_meet
   case rel => exact ⟨_,(1),(4096),(by first | rfl | (simp;done) | (simp [*];done)),(by first | rfl | (simp;done) | (simp [*];done)),H',⟨by first | omega | exact Nat.le_refl _⟩,⟨bA⟩⟩
  ·rw [if_neg c12] at H
   have c12b0 : decide (t438 < 0) = false:=decide_eq_false c12
   clear c12
   (first | rw [c12b0] | (simp only [i64_w,i32_w];rw [c12b0]) | skip)
   have H':=Aside0.mk H
   clear H
   go_wp2
   go_meet
   case rel => exact ⟨_,(a1),(a2),(by first | rfl | (simp;done) | (simp [*];done)),(by first | rfl | (simp;done) | (simp [*];done)),H',⟨by first | omega | exact Nat.le_refl _⟩,⟨bA⟩⟩
 case rest =>
  clear HC8
  try clear c1
  try clear p2
  try clear c3
  try clear c5
  try clear c6
  try clear c12
  try clear c12b0
  obtain ⟨kq,x1_7,x2_7,rfl,rfl,HA,HJ7,HB⟩:=hcut
  cases kq with
  | zero => exact absurd HA.out (by simp [backfillref13_Exponent.j0])
  | succ kj7 =>
   have H:=HA.out
   clear HA
   simp only [backfillref13_Exponent.j0] at H
   obtain ⟨⟨t439,t440⟩,A13,H⟩:=bnd H;(try dsimp only at H);obtain ⟨⟨t441,t442,t443,t444⟩,A14,H⟩:=bnd H;(try dsimp only at H)
   have HC15:=Aside0.mk H
   clear H
   go_upto_region 5 with (first | ((with_reducible refine gate_callee (f:=57) rfl ?_);refine goesL_ (some 23) rfl rfl Tryz.func57 (by kernel_rfl) rfl #[.int .u64 a0,.int .u64 x2_7] rfl aA ?_;(with_reducible refine (backfillref01_Mul.calls a0 x2_7 t439 t440 _ A13.out).mono ?_);rintro e w16 ⟨rfl,hb⟩;refine ⟨_,rfl,?_⟩;replace HB:=Am (below_step bA hb);(try clear hb)) | ((with_reducible refine gate_callee (f:=56) rfl ?_);refine goesL_ (some 25) rfl rfl Tryz.func56 (by kernel_rfl) rfl #[.agg #[.int .u64 t439,.int .u64 t440],.int .u64 x1_7] rfl aA ?_;(with_reducible refine (backfillref01_Div.calls kj7 t439 t440 x1_7 t441 t442 t443 t444 _ A14.out).mono ?_);rintro e w17 ⟨rfl,hb⟩;refine ⟨_,rfl,?_⟩;replace HB:=Am (below_step bA hb);(try clear hb)) | ((with_reducible refine gate_dst (N:=9) rfl ?_);refine bxA 9 #[.int .u64 0,.int .u64 0] 82 ?_;intro gb445 hg w18 hbox hb;have BK445:=Am (hbox);have GW445:=Am (gwA hg bA);have GE445:=Am (gwA hg bA);replace HB:=Am (below_step bA hb);clear hb hbox hg;obtain ⟨hcz19_0,hcz19_1,hfz19_0,hfz19_1⟩:=k2 BK445.out))
   (try simp only [Act.put,List.setIfInBounds_toArray,List.set_cons_zero,List.set_cons_succ])
   go_cut [33] (fun v33 wc => ∃ (kq : Nat) (x33_14 : Bool),v33 = .bool x33_14 ∧ Aside0 (backfillref13_Exponent.j1 kq a3 x33_14 t441 t442 = some r) ∧ Aside0 (kq ≤ kj7) ∧ Aside0 (wc.heap[gb445]? = some (.cells #[.int .u64 t441,.int .u64 t442] 82 (0,0))) ∧ Aside0 (Below w.heap.size w wc))
   case first =>
    have H:=HC15.out
    clear HC15
    by_cases c20 : a3 = true
    ·subst c20
     have H1 : (backfillref13_Exponent.j1 kj7 true (decide (t443 > 0)) t441 t442) = some r:=by rw [if_pos rfl] at H;exact H
     clear H
     have H:=H1
     clear H1
     have H':=Aside0.mk H
     clear H
     go_wp2
     go_meet
     case rel => exact ⟨_,(decide (t443 > 0)),(by first | rfl | (simp;done) | (simp [*];done)),H',⟨by have:=HJ7.out;first | omega | exact Nat.le_refl _⟩,⟨by (with_reducible repeat (first | refine b1 ?_ _ | refine b2 ?_ | refine b3 ?_ _));refine blk_put (cs:=#[.int .u64 t441,.int .u64 0]) ?_ 1 _ rfl;(with_reducible repeat (first | refine b1 ?_ _ | refine b2 ?_ | refine b3 ?_ _));refine blk_put (cs:=#[.int .u64 0,.int .u64 0]) ?_ 0 _ rfl;exact kA⟩,⟨bA⟩⟩
    ·replace c20:=Bool.eq_false_iff.mpr c20
     subst c20
     have H1 : (backfillref13_Exponent.j1 kj7 false false t441 t442) = some r:=by rw [if_neg (show ¬ (false = true) by decide)] at H;exact H
     clear H
     have H:=H1
     clear H1
     have H':=Aside0.mk H
     clear H
     go_wp2
     go_meet
     case rel => exact ⟨_,(false),(by first | rfl | (simp;done) | (simp [*];done)),H',⟨by have:=HJ7.out;first | omega | exact Nat.le_refl _⟩,⟨by (with_reducible repeat (first | refine b1 ?_ _ | refine b2 ?_ | refine b3 ?_ _));refine blk_put (cs:=#[.int .u64 t441,.int .u64 0]) ?_ 1 _ rfl;(with_reducible repeat (first | refine b1 ?_ _ | refine b2 ?_ | refine b3 ?_ _));refine blk_put (cs:=#[.int .u64 0,.int .u64 0]) ?_ 0 _ rfl;exact kA⟩,⟨bA⟩⟩
   case rest =>
    clear HC15
    try clear c1
    try clear c2
    try clear p2
    try clear c3
    try clear c5
    try clear c6
    try clear c12
    try clear c12b0
    try clear c20
    try clear hcz19_0
    try clear hcz19_1
    try clear hfz19_0
    try clear hfz19_1
    try clear p2
    obtain ⟨kq,x33_14,rfl,HA,HJ14,BK445,HB⟩:=hcut
    cases kq with
    | zero => exact absurd HA.out (by simp [backfillref13_Exponent.j1])
    | succ kj14 =>
     have H:=HA.out
     clear HA
     simp only [backfillref13_Exponent.j1] at H
     have HC21:=Aside0.mk H
     clear H
     go_upto_if 33 with (fail)
     go_cut [] (fun wc => ∃ (kq : Nat) (x446000_20 : Int) (x446001_20 : Int),Aside0 (backfillref13_Exponent.j2 kq a3 x446000_20 x446001_20 = some r) ∧ Aside0 (kq ≤ kj14) ∧ Aside0 (wc.heap[gb445]? = some (.cells #[.int .u64 x446000_20,.int .u64 x446001_20] 82 (0,0))) ∧ Aside0 (Below w.heap.size w wc))
     case first =>
      have H:=HC21.out
      clear HC21
      by_cases c22 : x33_14 = true
      ·subst c22
       have H1 : ((backfillref01_Of.f 1).bind fun bt446 => ((backfillref01_Add.f t441 t442 bt446.1 bt446.2).bind fun bt448 => (backfillref13_Exponent.j2 kj14 a3 bt448.1 bt448.2.1))) = some r:=by rw [if_pos rfl] at H;exact H
       clear H
       have H:=H1
       clear H1;obtain ⟨⟨t446,t447⟩,A23,H⟩:=bnd H;(try dsimp only at H);obtain ⟨⟨t448,t449,t450⟩,A24,H⟩:=bnd H;(try dsimp only at H)
       have H':=Aside0.mk H
       clear H
       try go_wp2
       replace BK445:=Am (blk_drew BK445.out);replace HB:=Am (below_drew1 HB.out)
       refine start_ (n:=7) (S:=fun w' => w'.cell? ⟨gb445,0,none⟩ = some (.int .u64 t441) ∧ w'.cell? ⟨gb445,1,none⟩ = some (.int .u64 t442)) (ds:=[6]) #[nn,nn,nn,nn,nn,nn,nn] (by kernel_rfl) rfl rfl (q2 BK445.out) (fun hHeld => ?_)
       generalize wc.drew = w25 at BK445 HB hHeld ⊢
       refine tk_ 0 (some 35) #[yy,nn,nn,nn,nn,nn,nn] (by kernel_rfl) hHeld ?_
       refine one_ (i:=1) (N:=some 36) #[yy,yy,nn,nn,nn,nn,nn] rfl rfl (by kernel_rfl) (by decide) (fun K hK => ?_)
       refine goes_ Tryz.func63 (by kernel_rfl) rfl #[.int .u64 1] (by rfl) rfl rfl aA ?_
       with_reducible refine (backfillref01_Of.calls 1 t446 t447 _ A23.out).mono ?_
       rintro e w26 ⟨rfl,hb⟩
       refine ⟨_,rfl,?_⟩;replace BK445:=Am (blk_below (g:=gb445) kA hb);replace HB:=Am (below_step bA hb);(try clear hb)
       refine hK.out _ _ (q2 BK445.out) (fun hHeld => ?_)
       clear hK K
       refine nm_ ?_
       refine one_ (i:=2) (N:=some 37) #[yy,yy,yy,nn,nn,nn,nn] rfl rfl (by kernel_rfl) (by decide) (fun K hK => ?_)
       refine goes_ Tryz.func64 (by kernel_rfl) rfl #[.agg #[.int .u64 t441,.int .u64 t442],.agg #[.int .u64 t446,.int .u64 t447]] (by rfl) rfl rfl aA ?_
       with_reducible refine (backfillref01_Add.calls t441 t442 t446 t447 t448 t449 t450 _ A24.out).mono ?_
       rintro e w27 ⟨rfl,hb⟩
       refine ⟨_,rfl,?_⟩;replace BK445:=Am (blk_below (g:=gb445) kA hb);replace HB:=Am (below_step bA hb);(try clear hb)
       refine hK.out _ _ (q2 BK445.out) (fun hHeld => ?_)
       clear hK K
       refine nm_ ?_
       refine pu_ 3 (some 34) #[yy,yy,yy,yy,nn,nn,nn] (by kernel_rfl) ?_
       refine pu_ 4 (some 38) #[yy,yy,yy,yy,yy,nn,nn] (by kernel_rfl) ?_
       refine pu_ 5 (some 39) #[yy,yy,yy,yy,yy,yy,nn] (by kernel_rfl) ?_
       refine last_ (i:=6) (N:=none) #[yy,yy,yy,yy,yy,yy,yy] rfl rfl (by kernel_rfl) (by decide) (fun K hK => ?_)
       have hs28 : w27.cell? ⟨gb445,0,none⟩ = some (.int .u64 t441):=(blk_cell BK445.out 0).trans rfl
       have hfs28:=blk_frozen BK445.out 0
       have hs29 : w27.cell? ⟨gb445,1,none⟩ = some (.int .u64 t442):=(blk_cell BK445.out 1).trans rfl
       have hfs29:=blk_frozen BK445.out 1
       refine skip_ (w1:=?_) (by rfl) rfl ?_ ?_
       rotate_left
       ·go_simp
        rfl
       refine hK.out _ _ ?_
       clear hK K
       refine done_ (by kernel_rfl) ?_
       try go_wp2
       go_meet
       case rel => exact ⟨_,(t448),(t449),H',⟨by have:=HJ7.out;have:=HJ14.out;first | omega | exact Nat.le_refl _⟩,⟨by (with_reducible repeat (first | refine b1 ?_ _ | refine b2 ?_ | refine b3 ?_ _));refine blk_put (cs:=#[.int .u64 t448,.int .u64 t442]) ?_ 1 _ rfl;(with_reducible repeat (first | refine b1 ?_ _ | refine b2 ?_ | refine b3 ?_ _));refine blk_put (cs:=#[.int .u64 t441,.int .u64 t442]) ?_ 0 _ rfl;exact kA⟩,⟨bA⟩⟩
      ·replace c22:=Bool.eq_false_iff.mpr c22
       subst c22
       have H1 : (backfillref13_Exponent.j2 kj14 a3 t441 t442) = some r:=by rw [if_neg (show ¬ (false = true) by decide)] at H;exact H
       clear H
       have H:=H1
       clear H1
       have H':=Aside0.mk H
       clear H
       go_wp2
       go_meet
       case rel => exact ⟨_,(t441),(t442),H',⟨by have:=HJ7.out;have:=HJ14.out;first | omega | exact Nat.le_refl _⟩,⟨by exact kA⟩,⟨bA⟩⟩
     case rest =>
      clear HC21
      try clear c1
      try clear c2
      try clear p2
      try clear c3
      try clear c5
      try clear c6
      try clear c12
      try clear c12b0
      try clear c20
      try clear c22
      try clear hcz19_0
      try clear hcz19_1
      try clear hfz19_0
      try clear hfz19_1
      try clear p2
      obtain ⟨kq,x446000_20,x446001_20,HA,HJ20,BK445,HB⟩:=hcut
      cases kq with
      | zero => exact absurd HA.out (by simp [backfillref13_Exponent.j2])
      | succ kj20 =>
       have H:=HA.out
       clear HA
       simp only [backfillref13_Exponent.j2] at H
       obtain ⟨⟨t451,t452,t453,t454⟩,A30,H⟩:=bnd H;(try dsimp only at H)
       have HC31:=Aside0.mk H
       clear H
       obtain ⟨hcz32_0,hcz32_1,hfz32_0,hfz32_1⟩:=k2 BK445.out
       go_upto_region 8 with (first | ((with_reducible refine gate_callee (f:=56) rfl ?_);refine goesL_ (some 42) rfl rfl Tryz.func56 (by kernel_rfl) rfl #[.agg #[.int .u64 x446000_20,.int .u64 x446001_20],.int .u64 2147483648] rfl aA ?_;(with_reducible refine (backfillref01_Div.calls kj20 x446000_20 x446001_20 2147483648 t451 t452 t453 t454 _ A30.out).mono ?_);rintro e w33 ⟨rfl,hb⟩;refine ⟨_,rfl,?_⟩;replace BK445:=Am (blk_below (g:=gb445) kA hb);replace HB:=Am (below_step bA hb);(try clear hb)) | ((with_reducible refine gate_dst (N:=12) rfl ?_);refine bxA 12 #[.int .u64 0,.int .u64 0] 82 ?_;intro gb455 hg w34 hbox hb;have BK455:=Am (hbox);have GW455:=Am (gwA hg bA);have GE455:=Am (gwA hg bA);have NB445_455:=Am (neA (g:=gb445) hg kA);have NB455_445:=Am (neB (g:=gb445) hg kA);replace BK445:=Am (blk_below (g:=gb445) kA hb);replace HB:=Am (below_step bA hb);clear hb hbox hg;have hnb35:=NB455_445.out;have hnc35:=NB445_455.out;obtain ⟨hcz36_0,hcz36_1,hfz36_0,hfz36_1⟩:=k2 BK455.out))
       (try simp only [Act.put,List.setIfInBounds_toArray,List.set_cons_zero,List.set_cons_succ])
       go_cut [50] (fun v50 wc => ∃ (kq : Nat) (x50_30 : Bool),v50 = .bool x50_30 ∧ Aside0 (backfillref13_Exponent.j3 kq x50_30 t451 t452 = some r) ∧ Aside0 (kq ≤ kj20) ∧ Aside0 (wc.heap[gb445]? = some (.cells #[.int .u64 x446000_20,.int .u64 x446001_20] 82 (0,0))) ∧ Aside0 (wc.heap[gb455]? = some (.cells #[.int .u64 t451,.int .u64 t452] 82 (0,0))) ∧ Aside0 (Below w.heap.size w wc))
       case first =>
        have H:=HC31.out
        clear HC31
        by_cases c37 : a3 = true
        ·subst c37
         have H1 : (backfillref13_Exponent.j3 kj20 (decide (t453 > 0)) t451 t452) = some r:=by rw [if_pos rfl] at H;exact H
         clear H
         have H:=H1
         clear H1
         have H':=Aside0.mk H
         clear H
         go_wp2
         go_meet
         case rel => exact ⟨_,(decide (t453 > 0)),(by first | rfl | (simp;done) | (simp [*];done)),H',⟨by have:=HJ7.out;have:=HJ14.out;have:=HJ20.out;first | omega | exact Nat.le_refl _⟩,⟨kF⟩,⟨by (with_reducible repeat (first | refine b1 ?_ _ | refine b2 ?_ | refine b3 ?_ _));refine blk_put (cs:=#[.int .u64 t451,.int .u64 0]) ?_ 1 _ rfl;(with_reducible repeat (first | refine b1 ?_ _ | refine b2 ?_ | refine b3 ?_ _));refine blk_put (cs:=#[.int .u64 0,.int .u64 0]) ?_ 0 _ rfl;exact kA⟩,⟨bA⟩⟩
        ·replace c37:=Bool.eq_false_iff.mpr c37
         subst c37
         have H1 : (backfillref13_Exponent.j3 kj20 false t451 t452) = some r:=by rw [if_neg (show ¬ (false = true) by decide)] at H;exact H
         clear H
         have H:=H1
         clear H1
         have H':=Aside0.mk H
         clear H
         go_wp2
         go_meet
         case rel => exact ⟨_,(false),(by first | rfl | (simp;done) | (simp [*];done)),H',⟨by have:=HJ7.out;have:=HJ14.out;have:=HJ20.out;first | omega | exact Nat.le_refl _⟩,⟨kF⟩,⟨by (with_reducible repeat (first | refine b1 ?_ _ | refine b2 ?_ | refine b3 ?_ _));refine blk_put (cs:=#[.int .u64 t451,.int .u64 0]) ?_ 1 _ rfl;(with_reducible repeat (first | refine b1 ?_ _ | refine b2 ?_ | refine b3 ?_ _));refine blk_put (cs:=#[.int .u64 0,.int .u64 0]) ?_ 0 _ rfl;exact kA⟩,⟨bA⟩⟩
       case rest =>
        clear HC31
        try clear c1
        try clear c2
        try clear p2
        try clear c3
        try clear c5
        try clear c6
        try clear c12
        try clear c12b0
        try clear c20
        try clear c22
        try clear c33
        try clear c35
        try clear c37
        try clear hcz19_0
        try clear hcz19_1
        try clear hcz32_0
        try clear hcz32_1
        try clear hcz36_0
        try clear hcz36_1
        try clear hfz19_0
        try clear hfz19_1
        try clear hfz32_0
        try clear hfz32_1
        try clear hfz36_0
        try clear hfz36_1
        try clear p2
        obtain ⟨kq,x50_30,rfl,HA,HJ30,BK445,BK455,HB⟩:=hcut
        cases kq with
        | zero => exact absurd HA.out (by simp [backfillref13_Exponent.j3])
        | succ kj30 =>
         have H:=HA.out
         clear HA
         simp only [backfillref13_Exponent.j3] at H
         by_cases c38 : x50_30 = true
         ·subst c38
          have H1 : ((backfillref01_Of.f 1).bind fun bt456 => ((backfillref01_Add.f t451 t452 bt456.1 bt456.2).bind fun bt458 => (if bt458.1 > 0 then (some 18446744073709551615) else (some bt458.2.1)))) = some r:=by rw [if_pos rfl] at H;exact H
          clear H
          have H:=H1
          clear H1;obtain ⟨⟨t456,t457⟩,A39,H⟩:=bnd H;(try dsimp only at H);obtain ⟨⟨t458,t459,t460⟩,A40,H⟩:=bnd H;(try dsimp only at H)
          by_cases c41 : t458 > 0
          ·rw [if_pos c41] at H
           have c41b0 : decide (0 < t458) = true:=decide_eq_true c41
           clear c41
           obtain rfl:=Option.some.inj H
           try go_wp2
           replace BK445:=Am (blk_drew BK445.out);replace BK455:=Am (blk_drew BK455.out);replace HB:=Am (below_drew1 HB.out)
           refine start_ (n:=7) (S:=fun w' => w'.cell? ⟨gb455,0,none⟩ = some (.int .u64 t451) ∧ w'.cell? ⟨gb455,1,none⟩ = some (.int .u64 t452)) (ds:=[6]) #[nn,nn,nn,nn,nn,nn,nn] (by kernel_rfl) rfl rfl (q2 BK455.out) (fun hHeld => ?_)
           generalize wc.drew = w42 at BK445 BK455 HB hHeld ⊢
           refine tk_ 0 (some 52) #[yy,nn,nn,nn,nn,nn,nn] (by kernel_rfl) hHeld ?_
           refine one_ (i:=1) (N:=some 53) #[yy,yy,nn,nn,nn,nn,nn] rfl rfl (by kernel_rfl) (by decide) (fun K hK => ?_)
           refine goes_ Tryz.func63 (by kernel_rfl) rfl #[.int .u64 1] (by rfl) rfl rfl aA ?_
           with_reducible refine (backfillref01_Of.calls 1 t456 t457 _ A39.out).mono ?_
           rintro e w43 ⟨rfl,hb⟩
           refine ⟨_,rfl,?_⟩;replace BK445:=Am (blk_below (g:=gb445) kA hb);replace BK455:=Am (blk_below (g:=gb455) kA hb);replace HB:=Am (below_step bA hb);(try clear hb)
           refine hK.out _ _ (q2 BK455.out) (fun hHeld => ?_)
           clear hK K
           refine nm_ ?_
           refine one_ (i:=2) (N:=some 54) #[yy,yy,yy,nn,nn,nn,nn] rfl rfl (by kernel_rfl) (by decide) (fun K hK => ?_)
           refine goes_ Tryz.func64 (by kernel_rfl) rfl #[.agg #[.int .u64 t451,.int .u64 t452],.agg #[.int .u64 t456,.int .u64 t457]] (by rfl) rfl rfl aA ?_
           with_reducible refine (backfillref01_Add.calls t451 t452 t456 t457 t458 t459 t460 _ A40.out).mono ?_
           rintro e w44 ⟨rfl,hb⟩
           refine ⟨_,rfl,?_⟩;replace BK445:=Am (blk_below (g:=gb445) kA hb);replace BK455:=Am (blk_below (g:=gb455) kA hb);replace HB:=Am (below_step bA hb);(try clear hb)
           refine hK.out _ _ (q2 BK455.out) (fun hHeld => ?_)
           clear hK K
           refine nm_ ?_
           refine pu_ 3 (some 51) #[yy,yy,yy,yy,nn,nn,nn] (by kernel_rfl) ?_
           refine pu_ 4 (some 55) #[yy,yy,yy,yy,yy,nn,nn] (by kernel_rfl) ?_
           refine pu_ 5 (some 56) #[yy,yy,yy,yy,yy,yy,nn] (by kernel_rfl) ?_
           refine last_ (i:=6) (N:=none) #[yy,yy,yy,yy,yy,yy,yy] rfl rfl (by kernel_rfl) (by decide) (fun K hK => ?_)
           have hs45 : w44.cell? ⟨gb455,0,none⟩ = some (.int .u64 t451):=(blk_cell BK455.out 0).trans rfl
           have hfs45:=blk_frozen BK455.out 0
           have hns45_0:=NB445_455.out
           have hms45_0:=NB455_445.out
           have hs46 : w44.cell? ⟨gb455,1,none⟩ = some (.int .u64 t452):=(blk_cell BK455.out 1).trans rfl
           have hfs46:=blk_frozen BK455.out 1
           have hns46_0:=NB445_455.out
           have hms46_0:=NB455_445.out
           refine skip_ (w1:=?_) (by rfl) rfl ?_ ?_
           rotate_left
           ·go_simp
            rfl
           refine hK.out _ _ ?_
           clear hK K
           refine done_ (by kernel_rfl) ?_
           have hnb47:=NB455_445.out
           have hnc47:=NB445_455.out
           obtain ⟨hcz48_0,hcz48_1,hfz48_0,hfz48_1⟩:=k2 BK455.out
           try go_wp2
           go_ret
           exact eA
          ·rw [if_neg c41] at H
           have c41b0 : decide (0 < t458) = false:=decide_eq_false c41
           clear c41
           obtain rfl:=Option.some.inj H
           try go_wp2
           replace BK445:=Am (blk_drew BK445.out);replace BK455:=Am (blk_drew BK455.out);replace HB:=Am (below_drew1 HB.out)
           refine start_ (n:=7) (S:=fun w' => w'.cell? ⟨gb455,0,none⟩ = some (.int .u64 t451) ∧ w'.cell? ⟨gb455,1,none⟩ = some (.int .u64 t452)) (ds:=[6]) #[nn,nn,nn,nn,nn,nn,nn] (by kernel_rfl) rfl rfl (q2 BK455.out) (fun hHeld => ?_)
           generalize wc.drew = w49 at BK445 BK455 HB hHeld ⊢
           refine tk_ 0 (some 52) #[yy,nn,nn,nn,nn,nn,nn] (by kernel_rfl) hHeld ?_
           refine one_ (i:=1) (N:=some 53) #[yy,yy,nn,nn,nn,nn,nn] rfl rfl (by kernel_rfl) (by decide) (fun K hK => ?_)
           refine goes_ Tryz.func63 (by kernel_rfl) rfl #[.int .u64 1] (by rfl) rfl rfl aA ?_
           with_reducible refine (backfillref01_Of.calls 1 t456 t457 _ A39.out).mono ?_
           rintro e w50 ⟨rfl,hb⟩
           refine ⟨_,rfl,?_⟩;replace BK445:=Am (blk_below (g:=gb445) kA hb);replace BK455:=Am (blk_below (g:=gb455) kA hb);replace HB:=Am (below_step bA hb);(try clear hb)
           refine hK.out _ _ (q2 BK455.out) (fun hHeld => ?_)
           clear hK K
           refine nm_ ?_
           refine one_ (i:=2) (N:=some 54) #[yy,yy,yy,nn,nn,nn,nn] rfl rfl (by kernel_rfl) (by decide) (fun K hK => ?_)
           refine goes_ Tryz.func64 (by kernel_rfl) rfl #[.agg #[.int .u64 t451,.int .u64 t452],.agg #[.int .u64 t456,.int .u64 t457]] (by rfl) rfl rfl aA ?_
           with_reducible refine (backfillref01_Add.calls t451 t452 t456 t457 t458 t459 t460 _ A40.out).mono ?_
           rintro e w51 ⟨rfl,hb⟩
           refine ⟨_,rfl,?_⟩;replace BK445:=Am (blk_below (g:=gb445) kA hb);replace BK455:=Am (blk_below (g:=gb455) kA hb);replace HB:=Am (below_step bA hb);(try clear hb)
           refine hK.out _ _ (q2 BK455.out) (fun hHeld => ?_)
           clear hK K
           refine nm_ ?_
           refine pu_ 3 (some 51) #[yy,yy,yy,yy,nn,nn,nn] (by kernel_rfl) ?_
           refine pu_ 4 (some 55) #[yy,yy,yy,yy,yy,nn,nn] (by kernel_rfl) ?_
           refine pu_ 5 (some 56) #[yy,yy,yy,yy,yy,yy,nn] (by kernel_rfl) ?_
           refine last_ (i:=6) (N:=none) #[yy,yy,yy,yy,yy,yy,yy] rfl rfl (by kernel_rfl) (by decide) (fun K hK => ?_)
           have hs52 : w51.cell? ⟨gb455,0,none⟩ = some (.int .u64 t451):=(blk_cell BK455.out 0).trans rfl
           have hfs52:=blk_frozen BK455.out 0
           have hns52_0:=NB445_455.out
           have hms52_0:=NB455_445.out
           have hs53 : w51.cell? ⟨gb455,1,none⟩ = some (.int .u64 t452):=(blk_cell BK455.out 1).trans rfl
           have hfs53:=blk_frozen BK455.out 1
           have hns53_0:=NB445_455.out
           have hms53_0:=NB455_445.out
           refine skip_ (w1:=?_) (by rfl) rfl ?_ ?_
           rotate_left
           ·go_simp
            rfl
           refine hK.out _ _ ?_
           clear hK K
           refine done_ (by kernel_rfl) ?_
           have hnb54:=NB455_445.out
           have hnc54:=NB445_455.out
           obtain ⟨hcz55_0,hcz55_1,hfz55_0,hfz55_1⟩:=k2 BK455.out
           try go_wp2
           go_ret
           exact eA
         ·replace c38:=Bool.eq_false_iff.mpr c38
          subst c38
          have H1 : (if t451 > 0 then (some 18446744073709551615) else (some t452)) = some r:=by rw [if_neg (show ¬ (false = true) by decide)] at H;exact H
          clear H
          have H:=H1
          clear H1
          by_cases c56 : t451 > 0
          ·rw [if_pos c56] at H
           have c56b0 : decide (0 < t451) = true:=decide_eq_true c56
           clear c56
           obtain rfl:=Option.some.inj H
           have hnb57:=NB455_445.out
           have hnc57:=NB445_455.out
           obtain ⟨hcz58_0,hcz58_1,hfz58_0,hfz58_1⟩:=k2 BK455.out
           go_wp2
           go_ret
           exact eA
          ·rw [if_neg c56] at H
           have c56b0 : decide (0 < t451) = false:=decide_eq_false c56
           clear c56
           obtain rfl:=Option.some.inj H
           have hnb59:=NB455_445.out
           have hnc59:=NB445_455.out
           obtain ⟨hcz60_0,hcz60_1,hfz60_0,hfz60_1⟩:=k2 BK455.out
           go_wp2
           go_ret
           exact eA


end Go.Proofs.YtbhijfbjdbjpbaaGreatDoor.GSH
namespace Go.Proofs.YtbhijfbjdbjpbaaGreatDoor.Q
open Go.RowKit Go.Proofs.YtbhijfbjdbjpbaaGreatDoor.GSH Go.Proofs.YtbhijfbjdbjpbaaGreatDoorW.PrintWords Go.Proofs.YtbhijfbjdbjpbaaGreatDoorW.PrintLast Go.Proofs.YtbhijfbjdbjpbaaGreatDoorW.PrintMore
theorem rshl {h l : Int} (hh : U h) (hl : U l) (n : Nat) (h0 : 0 < n) (h1 : n < 64) : backfillref01_Shl.f h l (n : Int) = some (shlV h l n):=by
  unfold backfillref01_Shl.f shlV
  rw [if_neg (by omega),if_neg (by omega),if_neg (by omega),if_pos (by omega),wrap64_in (by omega) (by omega),if_pos (by omega)]
  rw [show (64 - (n : Int)) = ((64 - n : Nat) : Int) by omega,shl_at n (by omega),shr_at (64 - n) (by omega),shl_at n (by omega)]
  have d:=shl_sum hh hl n (by omega)
  rw [w64_in d.1 d.2]
theorem shl1V {h l : Int} (hh : U h) (hl : U l) : backfillref01_Shl.f h l 1 = some (2 * V h l % 340282366920938463463374607431768211456 / 18446744073709551616,2 * V h l % 18446744073709551616):=by
  have:=rshl hh hl 1 (by decide) (by decide)
  rw [show ((1 : Nat) : Int) = 1 from rfl] at this
  rw [this]
  unfold shlV V
  obtain ⟨a,b⟩:=hh;obtain ⟨c,d⟩:=hl
  congr 2 <;> simp <;> omega
/-- Long division by bits: what is left of the digits,the quotient and the rest so far. -/
def divS (b : Int) : Nat → Int → Int → Int → Int × Int
  | 0,rest,_,q => (q,rest)
  | d + 1,rest,x,q => if 2 * rest + x / 170141183460469231731687303715884105728 ≥ b then divS b d (2 * rest + x / 170141183460469231731687303715884105728 - b) (2 * x % 340282366920938463463374607431768211456) (2 * q + 1)
      else divS b d (2 * rest + x / 170141183460469231731687303715884105728) (2 * x % 340282366920938463463374607431768211456) (2 * q)
theorem divS_eq {b : Int} (hb : 0 < b) (d : Nat) : ∀ (rest x q A : Int),0 ≤ rest → rest < b → 0 ≤ x → x < 340282366920938463463374607431768211456 → x * 2 ^ d = A * 340282366920938463463374607431768211456 →
    divS b d rest x q = (q * 2 ^ d + (rest * 2 ^ d + A) / b,(rest * 2 ^ d + A) % b):=by
  induction d with
  | zero =>
    intro rest x q A h0 h1 h2 h3 h4
    have hA : A = 0:=by omega
    subst hA
    simp only [divS]
    rw [show rest * 2 ^ 0 + 0 = rest by omega,Int.ediv_eq_zero_of_lt h0 h1,Int.emod_eq_of_lt h0 h1]
    congr 1
    omega
  | succ d ih =>
    intro rest x q A h0 h1 h2 h3 h4
    have hp : (2 : Int) ^ (d + 1) = 2 * 2 ^ d:=by rw [Int.pow_succ,Int.mul_comm]
    rw [hp] at h4 ⊢
    simp only [divS]
    have hx : ∃ t X,(t = 0 ∨ t = 1) ∧ x = t * 170141183460469231731687303715884105728 + X ∧ 0 ≤ X ∧ X < 170141183460469231731687303715884105728:=⟨x / 170141183460469231731687303715884105728,x % 170141183460469231731687303715884105728,by omega,by omega,by omega,by omega⟩
    obtain ⟨t,X,ht,rfl,hX0,hX1⟩:=hx
    generalize hT : (2 : Int) ^ d = T at *
    have e1 : (t * 170141183460469231731687303715884105728 + X) / 170141183460469231731687303715884105728 = t:=by omega
    have e2 : 2 * (t * 170141183460469231731687303715884105728 + X) % 340282366920938463463374607431768211456 = 2 * X:=by omega
    rw [e1,e2]
    have h5 : (2 * X) * T = (A - t * T) * 340282366920938463463374607431768211456:=by
      have : (t * 170141183460469231731687303715884105728 + X) * (2 * T) = t * T * 340282366920938463463374607431768211456 + 2 * X * T:=by
        rw [Int.add_mul]
        congr 1
        · rcases ht with rfl | rfl <;> omega
        · rw [Int.mul_left_comm,Int.mul_assoc]
      rw [this] at h4
      rw [Int.sub_mul]
      omega
    have r2 : (2 * rest + t) * T = 2 * (rest * T) + t * T:=by rw [Int.add_mul,Int.mul_assoc]
    have r3 : rest * (2 * T) = 2 * (rest * T):=by rw [Int.mul_left_comm]
    by_cases c : 2 * rest + t ≥ b
    · rw [if_pos c,ih _ _ _ (A - t * T) (by omega) (by omega) (by omega) (by omega) h5,Int.sub_mul,r2,r3]
      have e3 : 2 * (rest * T) + A = (2 * (rest * T) + t * T - b * T + (A - t * T)) + b * T:=by omega
      rw [e3,Int.add_mul_ediv_left _ _ (by omega),Int.add_mul_emod_self_left]
      congr 1
      rw [Int.add_mul,Int.mul_assoc,Int.mul_left_comm q 2 T]
      omega
    · rw [if_neg c,ih _ _ _ (A - t * T) (by omega) (by omega) (by omega) (by omega) h5,r2,r3]
      have e3 : 2 * (rest * T) + A = 2 * (rest * T) + t * T + (A - t * T):=by omega
      rw [e3,Int.mul_assoc,Int.mul_left_comm q 2 T]
theorem rdiv_l0 {b : Int} (hb : U b) (hb0 : 0 < b) (d : Nat) : ∀ (k : Nat) (i rest ah al qh ql : Int),d < k → d ≤ 128 → i = 128 - (d : Int) → U ah → U al → U qh → U ql → 0 ≤ rest → rest < b → (V qh ql + 1) * 2 ^ d ≤ 340282366920938463463374607431768211456 →
    backfillref01_Div.l0 k b rest i ah al qh ql = some ((divS b d rest (V ah al) (V qh ql)).1 / 18446744073709551616,(divS b d rest (V ah al) (V qh ql)).1 % 18446744073709551616,(divS b d rest (V ah al) (V qh ql)).2,true):=by
  induction d with
  | zero =>
    intro k i rest ah al qh ql hk _ hi h1 h2 h3 h4 h5 h6 h7
    obtain ⟨k,rfl⟩ : ∃ m,k = m + 1:=⟨k - 1,by omega⟩
    simp only [backfillref01_Div.l0,divS]
    rw [if_neg (by omega),V_hi h4,V_lo h4]
  | succ d ih =>
    intro k i rest ah al qh ql hk hd hi h1 h2 h3 h4 h5 h6 h7
    obtain ⟨k,rfl⟩ : ∃ m,k = m + 1:=⟨k - 1,by omega⟩
    simp only [backfillref01_Div.l0]
    rw [if_pos (by omega),shl1V h1 h2,shl1V h3 h4]
    simp only [Option.bind_some]
    have hT : (0 : Int) < 2 ^ d:=pow_pos_ d
    have hp : (2 : Int) ^ (d + 1) = 2 * 2 ^ d:=by rw [Int.pow_succ,Int.mul_comm]
    rw [hp] at h7
    obtain ⟨h1a,h1b⟩:=h1;obtain ⟨h2a,h2b⟩:=h2;obtain ⟨h3a,h3b⟩:=h3;obtain ⟨h4a,h4b⟩:=h4;obtain ⟨hba,hbb⟩:=hb
    have hQ : 2 * V qh ql + 2 ≤ 340282366920938463463374607431768211456:=by
      have : (V qh ql + 1) * (2 * 1) ≤ (V qh ql + 1) * (2 * 2 ^ d):=Int.mul_le_mul_of_nonneg_left (by omega) (by unfold V;omega)
      omega
    have hbit : V ah al / 170141183460469231731687303715884105728 = ah / 9223372036854775808:=by unfold V;omega
    have hA : V (2 * V ah al % 340282366920938463463374607431768211456 / 18446744073709551616) (2 * V ah al % 18446744073709551616) = 2 * V ah al % 340282366920938463463374607431768211456:=by unfold V;omega
    have hQ0 : V (2 * V qh ql % 340282366920938463463374607431768211456 / 18446744073709551616) (2 * V qh ql % 18446744073709551616) = 2 * V qh ql:=by unfold V at hQ ⊢;omega
    have hQ1 : V (2 * V qh ql % 340282366920938463463374607431768211456 / 18446744073709551616) (IntKind.u64.wrap (2 * V qh ql % 18446744073709551616 + 1)) = 2 * V qh ql + 1:=by rw [w64];unfold V at hQ ⊢;omega
    have m0 : (2 * V qh ql + 1) * 2 ^ d ≤ 340282366920938463463374607431768211456:=by
      have : (2 * V qh ql + 1) * 2 ^ d ≤ (V qh ql + 1) * (2 * 2 ^ d):=by
        rw [Int.mul_left_comm,← Int.mul_assoc]
        exact Int.mul_le_mul_of_nonneg_right (by omega) (by omega)
      omega
    have m1 : (2 * V qh ql + 1 + 1) * 2 ^ d ≤ 340282366920938463463374607431768211456:=by
      have : (2 * V qh ql + 1 + 1) * 2 ^ d ≤ (V qh ql + 1) * (2 * 2 ^ d):=by
        rw [Int.mul_left_comm,← Int.mul_assoc]
        exact Int.mul_le_mul_of_nonneg_right (by omega) (by omega)
      omega
    have v0 : 0 ≤ V ah al ∧ V ah al < 340282366920938463463374607431768211456:=by unfold V;omega
    have v1 : 0 ≤ V qh ql ∧ V qh ql < 340282366920938463463374607431768211456:=by unfold V;omega
    have wi : wrap64 (i + 1) = i + 1:=wrap64_in (by omega) (by omega)
    have yes : (IntKind.u64.wrap ((IntKind.u64.wrap ((IntKind.u64.wrap (rest * 2)) + (ah / 9223372036854775808))) - b)) = (2 * rest + ah / 9223372036854775808 - b) % 18446744073709551616:=by
      simp only [w64];omega
    simp only [divS]
    rw [hbit,wi,yes]
    by_cases c : rest / 9223372036854775808 = 1
    · rw [if_pos c,if_pos (by omega)]
      rw [show (2 * rest + ah / 9223372036854775808 - b) % 18446744073709551616 = 2 * rest + ah / 9223372036854775808 - b by omega]
      rw [ih k (i + 1) _ _ _ _ _ (by omega) (by omega) (by omega) ⟨by omega,by omega⟩ (umod _) ⟨by omega,by omega⟩ ⟨by rw [w64];omega,by rw [w64];omega⟩ (by omega) (by omega) (by rw [hQ1];exact m1),hA,hQ1]
    · rw [if_neg c]
      have w1 : IntKind.u64.wrap ((IntKind.u64.wrap (rest * 2)) + (ah / 9223372036854775808)) = 2 * rest + ah / 9223372036854775808:=by simp only [w64];omega
      rw [w1]
      by_cases c2 : 2 * rest + ah / 9223372036854775808 ≥ b
      · rw [if_pos c2,if_pos c2]
        rw [show (2 * rest + ah / 9223372036854775808 - b) % 18446744073709551616 = 2 * rest + ah / 9223372036854775808 - b by omega]
        rw [ih k (i + 1) _ _ _ _ _ (by omega) (by omega) (by omega) ⟨by omega,by omega⟩ (umod _) ⟨by omega,by omega⟩ ⟨by rw [w64];omega,by rw [w64];omega⟩ (by omega) (by omega) (by rw [hQ1];exact m1),hA,hQ1]
      · rw [if_neg c2,if_neg c2]
        rw [ih k (i + 1) _ _ _ _ _ (by omega) (by omega) (by omega) ⟨by omega,by omega⟩ (umod _) ⟨by omega,by omega⟩ (umod _) (by omega) (by omega) (by rw [hQ0];exact m0),hA,hQ0]
theorem rdiv {ah al b : Int} (k : Nat) (hk : 129 ≤ k) (h1 : U ah) (h2 : U al) (hb : U b) (hb0 : b ≠ 0) :
    backfillref01_Div.f k ah al b = some (V ah al / b / 18446744073709551616,V ah al / b % 18446744073709551616,V ah al % b,true):=by
  unfold backfillref01_Div.f
  have hb1 : 0 < b:=by have:=hb.1;omega
  rw [if_neg hb0,rdiv_l0 hb hb1 128 k 0 0 ah al 0 0 (by omega) (by omega) (by omega) h1 h2 ⟨by omega,by omega⟩ ⟨by omega,by omega⟩ (by omega) (by omega) (by decide)]
  have v0 : 0 ≤ V ah al ∧ V ah al < 340282366920938463463374607431768211456:=by
    obtain ⟨h1a,h1b⟩:=h1;obtain ⟨h2a,h2b⟩:=h2
    unfold V;omega
  rw [divS_eq hb1 128 0 (V ah al) (V 0 0) (V ah al) (by omega) hb1 v0.1 v0.2 (by rfl)]
  simp [V]
theorem rdiv0 {ah al : Int} (k : Nat) : backfillref01_Div.f k ah al 0 = some (0,0,0,false):=by
  unfold backfillref01_Div.f
  rw [if_pos rfl]
theorem rrungs : backfillref07_rungs.f = some rungsL:=rfl
theorem shr_bit (E d : Nat) (hE : E < 18446744073709551616) (hd : d < 64) : Go.bits .and .u64 (shr .u64 (E : Int) (d : Int)) 1 = ((bit E d : Nat) : Int):=by
  rw [shr_at d (by omega),and1]
  · unfold bit
    simp
  · have : (E : Int) / 2 ^ d = ((E / 2 ^ d : Nat) : Int):=by simp
    rw [this]
    have:=Nat.div_le_self E (2 ^ d)
    generalize E / 2 ^ d = z at *
    exact ⟨by omega,by omega⟩
theorem rgo : ∀ (d k : Nat) {E T : Nat} {x3 i : Int},d < k → d ≤ 32 → i = 33 - (d : Int) → 0 ≤ x3 → E < 18446744073709551616 → T ≤ 9223372036854775808 →
    backfillref07_Half.l0 k (E : Int) x3 rungsL (T : Int) i = some (shr .u64 ((hgo d E T : Nat) : Int) x3)
  | 0,k,E,T,x3,i,hk,_,hi,h3,_,_ => by
    obtain ⟨k,rfl⟩ : ∃ m,k = m + 1:=⟨k - 1,by omega⟩
    simp only [backfillref07_Half.l0]
    rw [if_neg (by omega),if_pos h3,hgo]
  | d + 1,k,E,T,x3,i,hk,hd,hi,h3,hE,hT => by
    obtain ⟨k,rfl⟩ : ∃ m,k = m + 1:=⟨k - 1,by omega⟩
    simp only [backfillref07_Half.l0]
    subst hi
    rw [if_pos (by omega),show wrap64 (32 - (33 - ((d + 1 : Nat) : Int))) = (d : Int) by rw [wrap64_in (by omega) (by omega)];omega,if_pos (by omega),shr_bit E d hE (by omega)]
    rw [show wrap64 (33 - ((d + 1 : Nat) : Int) + 1) = 33 - (d : Int) by rw [wrap64_in (by omega) (by omega)];omega]
    rw [show wrap64 (33 - ((d + 1 : Nat) : Int) - 1) = ((31 - d : Nat) : Int) by rw [wrap64_in (by omega) (by omega)];omega]
    have hb:=bit_lt E d
    have hr : rung d < 18446744073709551616:=rung_lt (d:=d) (by omega)
    rw [hgo]
    by_cases c : bit E d = 0
    · rw [if_neg (by omega),if_pos c]
      exact rgo d k (by omega) (by omega) rfl h3 hE hT
    · rw [if_pos (by omega),if_neg c,if_pos (by omega),if_pos (show ((31 - d : Nat) : Int) < (rungsL.length : Int) by rw [show rungsL.length = 32 from rfl];omega),rd_rung (by omega)]
      rw [rmul ⟨by omega,by omega⟩ ⟨by omega,by omega⟩]
      simp only [Option.bind_some]
      have e : (T : Int) * ((rung d : Nat) : Int) / 18446744073709551616 = ((T * rung d / BB : Nat) : Int):=by simp
      rw [e]
      refine rgo d k (by omega) (by omega) rfl h3 hE ?_
      apply Nat.div_le_of_le_mul
      rw [Nat.mul_comm BB]
      exact Nat.le_trans (Nat.mul_le_mul_left _ (Nat.le_of_lt hr)) (Nat.mul_le_mul_right _ hT)
theorem rhalf (k : Nat) (hk : 33 ≤ k) {e : Int} (h : U e) : backfillref07_Half.f k e = some ((HH e.toNat : Nat) : Int):=by
  obtain ⟨h0,h1⟩:=h
  obtain ⟨E,rfl⟩:=Int.eq_ofNat_of_zero_le h0
  rw [Int.toNat_natCast]
  unfold backfillref07_Half.f HH
  by_cases c : E / 4294967296 ≥ 63
  · rw [if_pos (by omega),if_pos c];rfl
  · rw [if_neg (by omega),if_neg c,rrungs]
    simp only [Option.bind_some]
    have:=rgo 32 k (E:=E) (T:=9223372036854775808) (x3:=(E : Int) / 4294967296) (i:=1) (by omega) (by omega) (by omega) (by omega) (by omega) (by omega)
    rw [show ((9223372036854775808 : Nat) : Int) = 9223372036854775808 from rfl] at this
    rw [this,show (E : Int) / 4294967296 = ((E / 4294967296 : Nat) : Int) by omega,shr_at _ (by omega)]
    unfold gg
    simp
end Go.Proofs.YtbhijfbjdbjpbaaGreatDoor.Q
namespace Go.Proofs.YtbhijfbjdbjpbaaGreatDoor.T
open Go.RowKit Go.Proofs.YtbhijfbjdbjpbaaGreatDoorW.PrintWords Go.Proofs.YtbhijfbjdbjpbaaGreatDoorW.PrintLast Go.Proofs.YtbhijfbjdbjpbaaGreatDoor.H Go.Maps Go.Proofs.YtbhijfbjdbjpbaaGreatDoor.Q Go.Proofs.YtbhijfbjdbjpbaaGreatDoor.GSH
set_option linter.unusedVariables false
set_option linter.unusedSimpArgs false
def toS (a : Acc) : S32:=⟨a.nm,a.par,a.sh,a.cl,a.us⟩
theorem c_accs {w : World} {A : Option Addr} {n : Nat} {ls : List Acc} (h : Rd Ec w A n ls) : Kd.C k32 w A n (ls.map toS):=by
  refine ⟨by rw [List.length_map];exact h.1,h.2.1,fun hn => ?_⟩
  obtain ⟨ad,rfl,hc⟩:=h.2.2 hn
  refine ⟨ad,rfl,fun j p hp => ?_⟩
  rw [List.getElem?_map] at hp
  obtain ⟨a,ha,rfl⟩:=Option.map_eq_some_iff.1 hp
  refine ⟨_,rfl,k32_mk w (toS a),fun i u hu => ?_⟩
  have hi : i < 5:=by have:=(List.getElem?_eq_some_iff.1 hu).1;simpa using this
  refine hc (j * 5 + i) u ?_
  have:=flat_at Ec ls j i a ha (by show i < 5;exact hi)
  rw [show j * Ec.sz + i = j * 5 + i from rfl] at this
  rw [this]
  exact hu
theorem c_nums {k : IntKind} {w : World} {A : Option Addr} {n : Nat} {xs : List Int} (h : Rd (Ei k) w A n xs) : Kd.C (Kd.int k) w A n xs:=
  Kd.C_of_reads (d:=0) ⟨h.1,h.2.1,fun hn => by
    obtain ⟨ad,e,hc⟩:=h.2.2 hn
    refine ⟨ad,e,fun j hj => ?_⟩
    obtain ⟨ad',e',hc'⟩:=Rd.int h j hj
    rw [e] at e';cases e'
    simpa [rd] using hc'⟩
theorem rd_S {ls : List Acc} {j : Nat} (h : j < ls.length) : rd_T32 (ls.map toS) (j : Int) = toS ls[j]:=by
  unfold rd_T32
  rw [Int.toNat_natCast,List.getD_eq_getElem?_getD,List.getElem?_map,List.getElem?_eq_getElem h];rfl
theorem rd_S1 {ls : List Acc} {j : Nat} (h : j < ls.length) : (rd_T32 (ls.map toS) (j : Int)).f1 = parV ls (j : Int):=by
  rw [rd_S h,parV_at (List.getElem?_eq_getElem h)];rfl
theorem rd_S2 {ls : List Acc} {j : Nat} (h : j < ls.length) : (rd_T32 (ls.map toS) (j : Int)).f2 = shV ls (j : Int):=by
  rw [rd_S h,shV_at (List.getElem?_eq_getElem h)];rfl
theorem sumL_le {ls : List Acc} (t : Tree ls) (p : Int) {j : Nat} (h : j ≤ ls.length) : 0 ≤ sumL (shV ls) (kidsV ls p j) ∧ sumL (shV ls) (kidsV ls p j) ≤ 262144:=by
  obtain ⟨_,b,c⟩:=sis_sum t (p:=p) h
  have:=kidsV_len ls p j
  have:=t.le
  omega
theorem tog_l0 {ls : List Acc} (t : Tree ls) (p : Int) : ∀ (m j k : Nat),j + m = ls.length → m < k → backfillref13_Together.l0 k (ls.map toS) p (sumL (shV ls) (kidsV ls p j)) (j : Int) = some (totS ls p)
  | m,j,0,_,hk => by omega
  | 0,j,k + 1,h,hk => by
    rw [backfillref13_Together.l0,List.length_map,if_neg (by omega)]
    rw [show j = ls.length by omega];rfl
  | m + 1,j,k + 1,h,hk => by
    have hj : j < ls.length:=by omega
    rw [backfillref13_Together.l0,List.length_map,if_pos (by omega),if_pos (by omega),rd_S1 hj,rd_S2 hj]
    have ih:=tog_l0 t p m (j + 1) k (by omega) (by omega)
    have h64:=t.le
    rw [wrap64_in (x:=(j : Int) + 1) (by omega) (by omega)]
    have hs:=t.sh j hj
    have hb:=sumL_le t p (j:=j) (by omega)
    rw [kids_step hj] at ih
    by_cases e : parV ls (j : Int) = p
    · rw [if_pos e,wrap64_in (by omega) (by omega)]
      rw [if_pos e,sumL_snoc] at ih
      exact ih
    · rw [if_neg e]
      rw [if_neg e] at ih
      exact ih
theorem tog_f {ls : List Acc} (t : Tree ls) (p : Int) (k : Nat) (hk : 65 ≤ k) : backfillref13_Together.f k (ls.map toS) p = some (totS ls p):=by
  have:=t.le
  exact tog_l0 t p ls.length 0 k (by omega) (by omega)
theorem part_f13 {ls : List Acc} (t : Tree ls) : ∀ (d k : Nat) (i : Nat),i < ls.length → depV ls (i : Int) = d → 66 + d ≤ k → backfillref13_part.f k (ls.map toS) (i : Int) = some (partV ls (i : Int))
  | d,0,i,_,_,hk => by omega
  | d,k + 1,i,hi,hd,hk => by
    rw [backfillref13_part.f,List.length_map,if_pos (by omega),if_pos (by omega),rd_S1 hi,rd_S2 hi]
    by_cases h0 : i = 0
    · subst h0
      rw [show (((0 : Nat) : Int)) = 0 from rfl,t.par0,if_pos (by decide)]
      rw [show partV ls 0 = (1,1) from clm_root]
    · obtain ⟨a,b,c⟩:=t.par (n:=(i : Int)) (by omega) (by omega)
      obtain ⟨p,hp⟩ : ∃ p : Nat,parV ls (i : Int) = p:=⟨(parV ls (i : Int)).toNat,by omega⟩
      rw [if_neg (by omega)]
      cases d with
      | zero => have:=dep_zero (ls:=ls) hd;omega
      | succ d =>
        rw [hp] at a b c ⊢
        refine bind_of (part_f13 t d k p (by omega) (by omega) (by omega)) ?_
        refine bind_of (tog_f t (p : Int) k (by omega)) ?_
        have hs : partV ls (i : Int) = shG ls (i : Int) (partV ls (p : Int)):=by rw [← hp];exact clm_step t (by omega) (by omega)
        have h1:=(sis_sum t (p:=(p : Int)) (Nat.le_refl ls.length)).1
        have h2:=sumL_le t (p : Int) (Nat.le_refl ls.length)
        rw [hs]
        unfold shG
        rw [hp,h1]
        unfold totS
        rw [w64_in (x:=sumL (shV ls) (kidsV ls (p : Int) ls.length)) h2.1 (by omega)]
theorem root_f {ls : List Acc} (t : Tree ls) (k : Nat) (hk : 1 ≤ k) : backfillref13_root.f k (ls.map toS) = some 0:=by
  obtain ⟨m,rfl⟩ : ∃ m,k = m + 1:=⟨k - 1,by omega⟩
  have hp:=t.pos
  unfold backfillref13_root.f
  rw [backfillref13_root.l0,List.length_map,if_pos (by omega),if_pos (by omega)]
  have:=rd_S1 (ls:=ls) (j:=0) hp
  rw [show (((0 : Nat) : Int)) = 0 from rfl] at this
  rw [this,t.par0,if_pos (by decide)]
theorem rq_add {a b : Int} (ha : U a) (hb : U b) : ∃ o,backfillref04_Add.f a b = some (addU a b,o):=by
  unfold backfillref04_Add.f
  refine ⟨decide (a + b < 18446744073709551616),?_⟩
  refine bind_of (show backfillref01_Of.f a = some (0,a) from rfl) ?_
  refine bind_of (show backfillref01_Of.f b = some (0,b) from rfl) ?_
  refine bind_of (radd (ah:=0) (al:=a) (bh:=0) (bl:=b) ⟨by decide,by decide⟩ ha ⟨by decide,by decide⟩ hb) ?_
  obtain ⟨a0,a1⟩:=ha;obtain ⟨b0,b1⟩:=hb
  rw [show addV (V 0 a) (V 0 b) = ((a + b) / 18446744073709551616,(a + b) % 18446744073709551616,true) by unfold addV V;rw [if_pos (by omega)];simp]
  unfold backfillref04_small.f addU
  dsimp only
  by_cases c : a + b < 18446744073709551616
  · rw [if_neg (by omega),if_pos c,decide_eq_true c]
    simp only [Option.bind_some]
    congr 2;omega
  · rw [if_pos (by omega),if_neg c,decide_eq_false c]
    simp only [Option.bind_some]
theorem us_len (ls : List Acc) : (ls.map Acc.us).length = ls.length:=List.length_map _
theorem rd_us (ls : List Acc) (i : Int) : rd (ls.map Acc.us) i = usV ls i:=rfl
theorem sum_f13 {ls : List Acc} (t : Tree ls) (hu : AccU ls) : ∀ (m : Nat),(∀ (a k : Nat),a < ls.length → 5 ≤ depV ls (a : Int) + m → m * 66 ≤ k → backfillref13_Sum.f k (ls.map toS) (ls.map Acc.us) (a : Int) = some (sumF ls m (a : Int)))
  | 0,a,k,ha,hm,hk => by have:=(t.dep a ha).2;omega
  | m + 1,a,k,ha,hm,hk => by
    obtain ⟨k,rfl⟩ : ∃ q,k = q + 1:=⟨k - 1,by omega⟩
    rw [backfillref13_Sum.f,us_len,if_pos (by omega),if_pos (by omega),rd_us]
    have h64:=t.le
    have key : ∀ (r j q : Nat),j + r = ls.length → m * 66 + r < q → backfillref13_Sum.l0 q (ls.map toS) (ls.map Acc.us) (a : Int) (upF (sumF ls m) ls (a : Int) (kidsV ls (a : Int) j)) (j : Int) = some (upF (sumF ls m) ls (a : Int) (kidsV ls (a : Int) ls.length)):=by
      intro r
      induction r with
      | zero =>
        intro j q hj hq
        obtain ⟨q,rfl⟩ : ∃ x,q = x + 1:=⟨q - 1,by omega⟩
        rw [backfillref13_Sum.l0,List.length_map,if_neg (by omega),show j = ls.length by omega]
      | succ r ih =>
        intro j q hj hq
        obtain ⟨q,rfl⟩ : ∃ x,q = x + 1:=⟨q - 1,by omega⟩
        have hjl : j < ls.length:=by omega
        rw [backfillref13_Sum.l0,List.length_map,if_pos (by omega),if_pos (by omega),rd_S1 hjl]
        have ih':=ih (j + 1) q (by omega) (by omega)
        rw [kids_step hjl] at ih'
        rw [wrap64_in (x:=(j : Int) + 1) (by omega) (by omega)]
        by_cases e : parV ls (j : Int) = (a : Int)
        · rw [if_pos e]
          rw [if_pos e] at ih'
          have hkid:=t.kid (p:=(a : Int)) (k:=(j : Int)) (by omega) ((kids_mem (Nat.le_refl _)).2 ⟨by omega,by omega,e⟩)
          refine bind_of (sum_f13 t hu m j q hjl (by omega) (by omega)) ?_
          have hU : U (upF (sumF ls m) ls (a : Int) (kidsV ls (a : Int) j)):=foldU _ _ (usV_in hu _) (fun i _ => sumF_in hu m i)
          obtain ⟨o,ho⟩:=rq_add hU (sumF_in hu m (j : Int))
          refine bind_of ho ?_
          have e2 : upF (sumF ls m) ls (a : Int) (kidsV ls (a : Int) j ++ [(j : Int)]) = addU (upF (sumF ls m) ls (a : Int) (kidsV ls (a : Int) j)) (sumF ls m (j : Int)):=by
            unfold upF;rw [List.foldl_append];rfl
          rw [e2] at ih'
          exact ih'
        · rw [if_neg e]
          rw [if_neg e] at ih'
          exact ih'
    have:=key ls.length 0 k (by omega) (by omega)
    exact this
theorem sum_f5 {ls : List Acc} (t : Tree ls) (hu : AccU ls) (a k : Nat) (ha : a < ls.length) (hk : 330 ≤ k) : backfillref13_Sum.f k (ls.map toS) (ls.map Acc.us) (a : Int) = some (sumV ls (a : Int)):=
  sum_f13 t hu 5 a k ha (by have:=t.dep a ha;omega) (by omega)
theorem used_f {s W : Int} (k : Nat) (hk : 129 ≤ k) (hs : U s) (hW : U W) : backfillref13_used.f k s W = some (partQ s 9223372036854775808 W):=by
  unfold backfillref13_used.f partQ
  refine bind_of (rmul hs UONE) ?_
  by_cases h0 : W = 0
  · subst h0
    rw [if_pos rfl]
    exact bind_of (rdiv0 k) rfl
  · rw [if_neg h0]
    refine bind_of (rdiv k hk (hiU hs UONE).1 (hiU hs UONE).2 hW h0) ?_
    rw [VV]
theorem eff_f13 {ls : List Acc} (t : Tree ls) (hu : AccU ls) {W : Int} (hW : U W) : ∀ (d k : Nat) (i : Nat),i < ls.length → depV ls (i : Int) = d → 331 + d ≤ k → backfillref13_effective.f k (ls.map toS) (ls.map Acc.us) W (i : Int) = some (effV ls W (i : Int))
  | d,0,i,_,_,hk => by omega
  | d,k + 1,i,hi,hd,hk => by
    rw [backfillref13_effective.f]
    refine bind_of (sum_f5 t hu i k hi (by omega)) ?_
    refine bind_of (used_f k (by omega) (sumV_in hu _) hW) ?_
    rw [List.length_map,if_pos (by omega),if_pos (by omega),rd_S1 hi,rd_S2 hi]
    have hrs : rd (sumsV ls) (i : Int) = sumV ls (i : Int):=rd_sums (by omega) (by omega)
    by_cases h0 : i = 0
    · subst h0
      rw [show (((0 : Nat) : Int)) = 0 from rfl] at hrs ⊢
      rw [t.par0,if_pos (by decide),← hrs]
      rw [show effV ls W 0 = partQ (rd (sumsV ls) 0) 9223372036854775808 W from clm_root]
    · obtain ⟨a,b,c⟩:=t.par (n:=(i : Int)) (by omega) (by omega)
      obtain ⟨p,hp⟩ : ∃ p : Nat,parV ls (i : Int) = p:=⟨(parV ls (i : Int)).toNat,by omega⟩
      rw [if_neg (by omega)]
      cases d with
      | zero => have:=dep_zero (ls:=ls) hd;omega
      | succ d =>
        rw [hp] at a b c ⊢
        refine bind_of (eff_f13 t hu hW d k p (by omega) (by omega) (by omega)) ?_
        have hs : effV ls W (i : Int) = efG ls (sumsV ls) W (i : Int) (effV ls W (p : Int)):=by rw [← hp];exact clm_step t (by omega) (by omega)
        have h1:=(sis_sum t (p:=(p : Int)) (Nat.le_refl ls.length)).1
        have h2:=sumL_le t (p : Int) (Nat.le_refl ls.length)
        have hw : IntKind.u64.wrap (totS ls (p : Int)) = totS ls (p : Int):=w64_in h2.1 (by unfold totS;omega)
        have hUT : U (totS ls (p : Int)):=⟨h2.1,by unfold totS;omega⟩
        rw [hs]
        unfold efG
        rw [hp,h1,hrs]
        rw [show sumL (shV ls) (kidsV ls (p : Int) ls.length) = totS ls (p : Int) from rfl]
        generalize partQ (sumV ls (i : Int)) 9223372036854775808 W = u
        generalize effV ls W (p : Int) = E
        have hm:=hiU (wrapU (E - u)) (wrapU (shV ls (i : Int)))
        refine bind_of (rmul (wrapU _) (wrapU _)) ?_
        refine bind_of (tog_f t (p : Int) k (by omega)) ?_
        rw [hw]
        unfold partQ
        by_cases hT : totS ls (p : Int) = 0
        · rw [hT,if_pos rfl]
          exact bind_of (rdiv0 k) rfl
        · rw [if_neg hT]
          refine bind_of (rdiv k (by omega) hm.1 hm.2 hUT hT) ?_
          rw [VV]
theorem exp13_j3 {e : Int} (h0 : 0 ≤ e) (h1 : e < 340282366920938463463374607431768211455) (b : Bool) (k : Nat) : backfillref13_Exponent.j3 (k + 1) b (e / 18446744073709551616) (e % 18446744073709551616) = some (if e + (if b = true then 1 else 0) < 18446744073709551616 then e + (if b = true then 1 else 0) else 18446744073709551615):=by
  have U3 : U (e / 18446744073709551616):=by unfold U;omega
  have U4 : U (e % 18446744073709551616):=by unfold U;omega
  rw [backfillref13_Exponent.j3]
  cases b
  · rw [if_neg (by decide)]
    simp only [Bool.false_eq_true,if_false,Int.add_zero]
    by_cases c : e < 18446744073709551616
    · rw [if_neg (by omega),if_pos c];congr 1;omega
    · rw [if_pos (by omega),if_neg c]
  · rw [if_pos rfl]
    simp only [if_true]
    refine bind_of (show backfillref01_Of.f 1 = some (0,1) from rfl) ?_
    refine bind_of (radd U3 U4 ⟨by decide,by decide⟩ ⟨by decide,by decide⟩) ?_
    rw [VV,show V 0 1 = 1 from rfl,show addV e 1 = ((e + 1) / 18446744073709551616,(e + 1) % 18446744073709551616,true) from if_pos (by omega)]
    dsimp only
    by_cases c : e + 1 < 18446744073709551616
    · rw [if_neg (by omega),if_pos c];congr 1;omega
    · rw [if_pos (by omega),if_neg c]
theorem exp13_j2 {q : Int} (h0 : 0 ≤ q) (h1 : q < 340282366920938463463374607431768211455) (k : Nat) (hk : 129 ≤ k) : backfillref13_Exponent.j2 (k + 2) true (q / 18446744073709551616) (q % 18446744073709551616) = some (if q / 2147483648 + (if q % 2147483648 > 0 then 1 else 0) < 18446744073709551616 then q / 2147483648 + (if q % 2147483648 > 0 then 1 else 0) else 18446744073709551615):=by
  have U3 : U (q / 18446744073709551616):=by unfold U;omega
  have U4 : U (q % 18446744073709551616):=by unfold U;omega
  rw [backfillref13_Exponent.j2]
  refine bind_of (rdiv (k + 1) (by omega) U3 U4 ⟨by decide,by decide⟩ (by decide)) ?_
  rw [VV,if_pos rfl]
  rw [exp13_j3 (e:=q / 2147483648) (by omega) (by omega)]
  by_cases c : q % 2147483648 > 0
  · simp only [decide_eq_true c,if_pos c,if_true]
  · simp only [decide_eq_false c,if_neg c,Bool.false_eq_true,if_false]
theorem exp13_j0 {x0 x1 x2 : Int} (h0 : U x0) (h1 : U x1) (h2 : U x2) (hp : 0 < x1) (k : Nat) (hk : 129 ≤ k) : backfillref13_Exponent.j0 (k + 4) x0 x1 x2 true = some (expQ (x0 * x2) x1):=by
  rw [backfillref13_Exponent.j0]
  refine bind_of (rmul h0 h2) ?_
  obtain ⟨u1,u2⟩:=hiU h0 h2
  have hbd:=mul_bd h0 h2
  refine bind_of (rdiv (k + 3) (by omega) u1 u2 h1 (by omega)) ?_
  rw [VV]
  obtain ⟨x,hx⟩ : ∃ x,x = x0 * x2:=⟨_,rfl⟩
  rw [← hx] at hbd ⊢
  obtain ⟨q,hq⟩ : ∃ q,q = x / x1:=⟨_,rfl⟩
  obtain ⟨r,hr⟩ : ∃ r,r = x % x1:=⟨_,rfl⟩
  have hxq : x = q * x1 + r:=by rw [hq,hr,Int.mul_comm];exact (Int.mul_ediv_add_emod x x1).symm
  have hr0 : 0 ≤ r:=by rw [hr];exact Int.emod_nonneg _ (by omega)
  have hr1 : r < x1:=by rw [hr];exact Int.emod_lt_of_pos _ hp
  have hq0 : 0 ≤ q:=by rw [hq];exact Int.ediv_nonneg hbd.1 (by omega)
  have hq1 : q ≤ x:=by rw [hq];exact Int.ediv_le_self _ hbd.1
  have hE:=expQ_up hp hxq hr0 hr1
  unfold expQ
  rw [← hq,← hr,hE]
  have U1 : U (q / 18446744073709551616):=by unfold U;omega
  have U2 : U (q % 18446744073709551616):=by unfold U;omega
  clear hq hr hE hx hxq h0 h1 h2 u1 u2
  dsimp only
  rw [if_pos rfl,backfillref13_Exponent.j1]
  by_cases c : r > 0
  · rw [decide_eq_true c,if_pos rfl,if_pos (Or.inl c)]
    refine bind_of (show backfillref01_Of.f 1 = some (0,1) from rfl) ?_
    refine bind_of (radd U1 U2 ⟨by decide,by decide⟩ ⟨by decide,by decide⟩) ?_
    rw [VV,show V 0 1 = 1 from rfl,show addV q 1 = ((q + 1) / 18446744073709551616,(q + 1) % 18446744073709551616,true) from if_pos (by omega)]
    rw [exp13_j2 (q:=q + 1) (by omega) (by omega) k hk]
    have e : (q + 1) / 2147483648 + (if (q + 1) % 2147483648 > 0 then 1 else 0) = q / 2147483648 + 1:=by split <;> omega
    rw [e]
  · rw [decide_eq_false c,if_neg (by decide),exp13_j2 hq0 (by omega) k hk]
    by_cases c2 : q % 2147483648 > 0
    · rw [if_pos c2,if_pos (Or.inr c2)]
    · rw [if_neg c2,if_neg (show ¬ (r > 0 ∨ q % 2147483648 > 0) by omega)]
theorem exp13_f {u n d : Int} (hu : U u) (hn : U n) (hd : U d) (hp : 0 < n) : backfillref13_Exponent.f 140 u n d true = some (expV u n d):=by
  unfold backfillref13_Exponent.f
  refine bind_of (rmul hn ⟨by decide,by decide⟩) ?_
  refine bind_of (show backfillref01_Of.f d = some (0,d) from rfl) ?_
  have h:=rcmp (ah:=n * 4096 / 18446744073709551616) (al:=n * 4096 % 18446744073709551616) (bh:=0) (bl:=d) 140 (by omega) (hiU hn ⟨by decide,by decide⟩).2 hd
  refine bind_of h ?_
  rw [VV,show V 0 d = d by unfold V;omega]
  unfold cmpV expV
  by_cases c : n * 4096 < d
  · rw [if_pos c,if_pos c,if_pos (by decide)]
    exact exp13_j0 hu ⟨by decide,by decide⟩ ⟨by decide,by decide⟩ (by decide) 136 (by omega)
  · rw [if_neg c,if_neg c]
    by_cases c2 : n * 4096 = d
    · rw [if_pos c2,if_neg (by decide)];exact exp13_j0 hu hn hd hp 136 (by omega)
    · rw [if_neg c2,if_neg (by decide)];exact exp13_j0 hu hn hd hp 136 (by omega)
section
variable (w : World) (A : Option Addr) (n c : Nat) (ls : List Acc) (hr : Rd Ec w A n ls) (hc : n ≤ c) (t : Tree ls)
include hr hc t
theorem part13_calls (i : Nat) (hi : i < n) : Calls Tryz.prog 18 #[.slice A n c,.int .i64 i] w fun e w' => e = .returned (.tuple #[.int .u64 (partV ls (i : Int)).1,.int .u64 (partV ls (i : Int)).2]) ∧ w.grownBy w' none:=by
  have hl : (ls.map toS).length = n:=by rw [List.length_map];exact hr.1
  have hil : i < ls.length:=by rw [hr.1];exact hi
  have hd:=t.dep i hil
  have h:=backfillref13_part.calls 75 A c (ls.map toS) (i : Int) _ _ w (by rw [hl];exact c_accs hr) (by omega) (part_f13 t (depV ls (i : Int)).toNat 75 i hil (by omega) (by omega))
  rw [hl] at h
  exact h.mono (fun e w' h => ⟨h.1,gb_of_below (Drawn0.below h.2) none⟩)
theorem root13_calls : Calls Tryz.prog 27 #[.slice A n c] w fun e w' => e = .returned (.int .i64 0) ∧ w.grownBy w' none:=by
  have hl : (ls.map toS).length = n:=by rw [List.length_map];exact hr.1
  have h:=backfillref13_root.calls 75 A c (ls.map toS) _ w (by rw [hl];exact c_accs hr) (by omega) (root_f t 75 (by omega))
  rw [hl] at h
  exact h.mono (fun e w' h => ⟨h.1,gb_of_below (Drawn0.below h.2) none⟩)
variable (hu : AccU ls) (B : Option Addr) (bc : Nat) (hB : Rd (Ei .u64) w B n (ls.map Acc.us)) (hbc : n ≤ bc)
include hu hB hbc
theorem sum13_calls (i : Nat) (hi : i < n) : Calls Tryz.prog 26 #[.slice A n c,.slice B n bc,.int .i64 i] w fun e w' => e = .returned (.int .u64 (sumV ls (i : Int))) ∧ w.grownBy w' none:=by
  have hl : (ls.map toS).length = n:=by rw [List.length_map];exact hr.1
  have hl2 : (ls.map Acc.us).length = n:=by rw [List.length_map];exact hr.1
  have h:=backfillref13_Sum.calls 400 A c (ls.map toS) B bc (ls.map Acc.us) (i : Int) _ w (by rw [hl];exact c_accs hr) (by omega) (by rw [hl2];exact c_nums hB) (by omega) (sum_f5 t hu i 400 (by rw [hr.1];exact hi) (by omega))
  rw [hl,hl2] at h
  exact h.mono (fun e w' h => ⟨h.1,gb_of_below h.2 none⟩)
theorem eff13_calls (W : Int) (hW : U W) (i : Nat) (hi : i < n) : Calls Tryz.prog 29 #[.slice A n c,.slice B n bc,.int .u64 W,.int .i64 i] w fun e w' => e = .returned (.int .u64 (effV ls W (i : Int))) ∧ w.grownBy w' none:=by
  have hl : (ls.map toS).length = n:=by rw [List.length_map];exact hr.1
  have hl2 : (ls.map Acc.us).length = n:=by rw [List.length_map];exact hr.1
  have hil : i < ls.length:=by rw [hr.1];exact hi
  have hd:=t.dep i hil
  have h:=backfillref13_effective.calls 400 A c (ls.map toS) B bc (ls.map Acc.us) W (i : Int) _ w (by rw [hl];exact c_accs hr) (by omega) (by rw [hl2];exact c_nums hB) (by omega) (eff_f13 t hu hW (depV ls (i : Int)).toNat 400 i hil (by omega) (by omega))
  rw [hl,hl2] at h
  exact h.mono (fun e w' h => ⟨h.1,gb_of_below h.2 none⟩)
end
theorem exp13_calls (w : World) (u n d : Int) (hu : U u) (hn : U n) (hd : U d) (hp : 0 < n) : Calls Tryz.prog 33 #[.int .u64 u,.int .u64 n,.int .u64 d,.bool true] w fun e w' => e = .returned (.int .u64 (expV u n d)) ∧ w.grownBy w' none:=
  (backfillref13_Exponent.calls 140 u n d true _ w (exp13_f hu hn hd hp)).mono (fun e w' h => ⟨h.1,gb_of_below h.2 none⟩)
theorem half07_calls (w : World) (e : Int) (he : U e) : Calls Tryz.prog 32 #[.int .u64 e] w fun q w' => q = .returned (.int .u64 (halfV e)) ∧ w.grownBy w' none:=
  (backfillref07_Half.calls 40 e _ w (rhalf 40 (by omega) he)).mono (fun e w' h => ⟨h.1,gb_of_below h.2 none⟩)
end Go.Proofs.YtbhijfbjdbjpbaaGreatDoor.T
namespace Go.Proofs.YtbhijfbjdbjpbaaGreatDoor.T
open Go.RowKit Go.Proofs.YtbhijfbjdbjpbaaGreatDoorW.PrintWords Go.Proofs.YtbhijfbjdbjpbaaGreatDoorW.PrintLast Go.Proofs.YtbhijfbjdbjpbaaGreatDoor.H Go.Maps Go.Proofs.YtbhijfbjdbjpbaaGreatDoor.Q Go.Proofs.YtbhijfbjdbjpbaaGreatDoor.GSH
set_option linter.unusedVariables false
set_option linter.unusedSimpArgs false
theorem right_calls (w : World) (A : Option Addr) (n c : Nat) (ls : List Acc) (hr : Rd Ec w A n ls) (hok : AccOk ls) :
    Calls Tryz.prog 17 #[.slice A n c] w fun e w' => e = .returned (.bool (loadE ls == 0)) ∧ w.grownBy w' none:=by
  have HC:=Am (refload_calls w A n c ls hr hok)
  clear hr hok
  go_enter Tryz.func17,Tryz.ntmps17
  go_wp2_with fail
  refine (HC.out).mono ?_
  rintro e w1 ⟨⟨o,rfl⟩,hg⟩
  have HG:=Aside0.mk hg
  obtain ⟨ev,hev⟩ : ∃ ev,ev = loadE ls:=⟨_,rfl⟩
  have HEV:=Aside0.mk hev
  rw [← hev]
  clear hg HC hev
  go_wp2
  go_ret
  exact ⟨by rw [← HEV.out];rfl,HG.out⟩
theorem lit0 (w : World) {B : Nat} (hB : B ≤ w.heap.size) : (w.alloc (.cells #[] 30)).ownsRow B 30 (Ei .u64).sz (.slice (some ⟨w.heap.size,0,none⟩) 0 0) 0 (flat (Ei .u64) []):=World.ownsRow_lit (e:=30) (size:=1) w #[] 0 hB (by simp [maxLen]) (by simp)
/-- What the document's Shares answers: two lists. -/
def RShI (w : World) (ls : List Acc) (e : Ending) (w' : World) : Prop:=
  w.grownBy w' none ∧ ∃ v1 v2,e = .returned (.tuple #[v1,v2]) ∧
    (loadE ls ≠ 0 → w'.ownsRow w.heap.size 30 (Ei .u64).sz v1 0 (flat (Ei .u64) []) ∧ w'.ownsRow w.heap.size 30 (Ei .u64).sz v2 0 (flat (Ei .u64) [])) ∧
    (loadE ls = 0 → w'.ownsRow w.heap.size 30 (Ei .u64).sz v1 ls.length (flat (Ei .u64) (numsV ls)) ∧ w'.ownsRow w.heap.size 30 (Ei .u64).sz v2 ls.length (flat (Ei .u64) (densV ls)))
theorem rShares_calls (w : World) (A : Option Addr) (n c : Nat) (ls : List Acc) (hr : Rd Ec w A n ls) (hc : n ≤ c) (hok : AccOk ls) :
    Calls Tryz.prog 6 #[.slice A n c] w (RShI w ls):=by
  have hlen:=hr.2.1
  have HN:=Aside0.mk hr.1
  have HR:=Aside0.mk hr
  have HC:=Aside0.mk hc
  have HRT:=Am (fun (W : World) (h : Rd Ec W A n ls) => right_calls W A n c ls h hok)
  clear hr hc hok
  go_enter Tryz.func6,Tryz.ntmps6
  go_upto_region 3 with (fail)
  have HG0:=Am (World.grownBy.trans (World.grownBy_alloc w (.cells #[] 30) none) (World.grownBy_alloc (w.alloc (.cells #[] 30)) (.cells #[] 30) none))
  have HA0:=Am (own_kept (lit0 w (Nat.le_refl _)) (World.grownBy_alloc (w.alloc (.cells #[] 30)) (.cells #[] 30) none) (by simp))
  have HB0:=Am (lit0 (w.alloc (.cells #[] 30)) (B:=w.heap.size) (by simp only [World.size_alloc];omega))
  rw [World.size_alloc] at HB0
  obtain ⟨ga,hga⟩ : ∃ g,g = w.heap.size:=⟨_,rfl⟩
  obtain ⟨gb,hgb⟩ : ∃ g,g = w.heap.size + 1:=⟨_,rfl⟩
  have HNE:=Am (show ga ≠ gb by omega)
  rw [← hgb] at HB0 ⊢
  have HGA:=Aside0.mk hga
  clear hga hgb
  generalize (w.alloc (.cells #[] 30)).alloc (.cells #[] 30) = w1 at HG0 HA0 HB0 ⊢
  rw [← HGA.out] at HA0 ⊢
  have HAw : Aside0 (w1.ownsRow w.heap.size 30 (Ei .u64).sz (.slice (some ⟨ga,0,none⟩) 0 0) 0 (flat (Ei .u64) [])):=⟨by have:=HA0.out;rw [HGA.out] at this ⊢;exact this⟩
  go_wp2_with fail
  refine (HRT.out w1 (HR.out.gb HG0.out)).mono ?_
  rintro e w2 ⟨rfl,hg⟩
  have HG2:=Am (World.grownBy.trans HG0.out hg)
  have HA2:=Am (own_kept HAw.out hg (by simp))
  have HB2:=Am (own_kept HB0.out hg (by simp))
  clear hg HRT HA0 HB0 HG0 HAw
  by_cases h0 : loadE ls = 0
  · have HE0:=Aside0.mk h0
    have HT0:=Am (tree_of h0)
    have b0 : (loadE ls == 0) = true:=by rw [h0];rfl
    rw [b0]
    clear b0 h0
    go_wp2_with fail
    go_loopg [4,5,6] n (fun k v4 v5 v6 wr => ∃ (j : Nat) (a b : Value) (xs ys : List Int),a = v4 ∧ b = v5 ∧ v6 = .int .i64 j ∧ Aside0 (j + k = n) ∧ j ≤ n ∧ Aside0 (xs = (List.range j).map (fun i : Nat => (partV ls (i : Int)).1)) ∧ Aside0 (ys = (List.range j).map (fun i : Nat => (partV ls (i : Int)).2)) ∧
      Aside0 (wr.ownsRow w.heap.size 30 (Ei .u64).sz a j (flat (Ei .u64) xs)) ∧ Aside0 (wr.ownsRow w.heap.size 30 (Ei .u64).sz b j (flat (Ei .u64) ys)) ∧ Aside0 (∀ k,a.ownBlock = some k → b.ownBlock ≠ some k) ∧ Aside0 (Tn w wr (fun k => w.heap.size ≤ k)))
    case atStart => exact ⟨0,_,_,[],[],rfl,rfl,rfl,⟨by omega⟩,by omega,⟨rfl⟩,⟨rfl⟩,HA2,HB2,⟨fun k h1 h2 => by simp [Value.ownBlock] at h1 h2;exact HNE.out (h1.trans h2.symm)⟩,⟨Tn.gb0 HG2.out _⟩⟩
    case round =>
      clear HA2 HB2
      obtain ⟨j,a,b,xs,ys,rfl,rfl,rfl,HD,hj,HXS,HYS,HA,HB,HNQ,HT⟩:=hrel
      cases gk with
      | zero =>
        obtain rfl : j = n:=by have:=HD.out;omega
        go_wp2
        go_ret2
        refine ⟨gb_of_tn HT.out (fun k h => h),_,_,rfl,fun h => absurd HE0.out h,fun _ => ?_⟩
        have h1:=HA.out
        have h2:=HB.out
        rw [HXS.out] at h1
        rw [HYS.out] at h2
        rw [HN.out]
        unfold numsV densV
        rw [HN.out]
        exact ⟨h1,h2⟩
      | succ d =>
        have hlt : j < n:=by have:=HD.out;omega
        have hlt1 : decide ((j : Int) < (n : Int)) = true:=decide_eq_true (by omega)
        have hji : (j : Int) < (n : Int):=by omega
        have h64 : n ≤ 64:=by have h1:=HT0.out.le;have h2:=HN.out;omega
        have HRr:=Am (HR.out.tn HT.out (fun ad ha hn e => by
          obtain ⟨ad',e',hcell⟩:=HR.out.2.2 hn
          rw [ha] at e';cases e'
          obtain ⟨x,hx⟩ : ∃ x,ls[0]? = some x:=⟨_,List.getElem?_eq_getElem (by have:=HN.out;omega)⟩
          have h1:=acc_cells (by rw [← ha];exact HR.out) hx
          have h2:=World.block_lt_of_cell? w _ h1.1
          rw [H.add_block] at h2
          exact absurd h2 (by have h3 : w.heap.size ≤ ad.block:=e;omega)))
        have HP:=Am (part13_calls wr A n c ls HRr.out HC.out HT0.out j hlt)
        obtain ⟨x,hx⟩ : ∃ x,x = (partV ls (j : Int)).1:=⟨_,rfl⟩
        obtain ⟨y,hy⟩ : ∃ y,y = (partV ls (j : Int)).2:=⟨_,rfl⟩
        rw [← hx,← hy] at HP
        have HXN:=Am (show (List.range (j + 1)).map (fun i : Nat => (partV ls (i : Int)).1) = xs ++ [x] by rw [List.range_succ,List.map_append,← HXS.out,hx];rfl)
        have HYN:=Am (show (List.range (j + 1)).map (fun i : Nat => (partV ls (i : Int)).2) = ys ++ [y] by rw [List.range_succ,List.map_append,← HYS.out,hy];rfl)
        clear hx hy
        go_wp2_with fail
        refine (HP.out).mono ?_
        rintro e w3 ⟨rfl,hg⟩
        have HT3:=Am (HT.out.trans' (Tn.gb0 hg _))
        have HA3:=Am (own_kept (own_kept HA.out hg (by simp)) (World.grownBy_alloc w3 (.cells #[.int .u64 x] 30) none) (by simp))
        have HB3:=Am (own_kept (own_kept HB.out hg (by simp)) (World.grownBy_alloc w3 (.cells #[.int .u64 x] 30) none) (by simp))
        have HL3:=Am (show Rd (Ei .u64) (w3.alloc (.cells #[.int .u64 x] 30)) (some ⟨w3.heap.size,0,none⟩) 1 [x] from rd_lit (Ei .u64) w3 30 [x] (by simp))
        have HZ3:=Am (show w.heap.size ≤ (w3.alloc (.cells #[.int .u64 x] 30)).heap.size from Nat.le_trans HT3.out.size (World.grownBy_alloc w3 (.cells #[.int .u64 x] 30) none).size)
        have HTa:=Am (HT3.out.trans' (Tn.alloc w3 (.cells #[.int .u64 x] 30) _))
        clear hg HP
        go_wp2_with (first | (at_builtin;refine app_at (Ei .u64) w.heap.size rfl (.tmp 28) (.tmp 30) 33 30 (.int .u64 0) 8 rfl Tryz.underlying33 (by kernel_rfl) rfl (by decide) a j xs [x] ⟨w3.heap.size,0,none⟩ 1 1 rfl rfl HA3.out HL3.out HZ3.out (by omega) ?_;intro v4 w4 ho hg hat;have HO4:=Aside0.mk ho;have HAT4:=Aside0.mk hat;have HT4:=Am (HTa.out.trans' (Tn.of_gb (F:=fun k => w.heap.size ≤ k) hg (fun k hk => (HA3.out.lt k hk).1)));have HB4:=Am (own_tn HB3.out (Tn.of_gb (F:=fun k => a.ownBlock = some k) hg (fun k hk => hk)) (fun k hk e => HNQ.out k e hk));have HZ4:=Aside0.mk hg.size;have HB5:=Am (own_kept HB4.out (World.grownBy_alloc w4 (.cells #[.int .u64 y] 30) none) (by simp));have HO5:=Am (own_kept ho (World.grownBy_alloc w4 (.cells #[.int .u64 y] 30) none) (by simp));have HL5:=Am (show Rd (Ei .u64) (w4.alloc (.cells #[.int .u64 y] 30)) (some ⟨w4.heap.size,0,none⟩) 1 [y] from rd_lit (Ei .u64) w4 30 [y] (by simp));have HZ5:=Am (show w.heap.size ≤ (w4.alloc (.cells #[.int .u64 y] 30)).heap.size from Nat.le_trans HT4.out.size (World.grownBy_alloc w4 (.cells #[.int .u64 y] 30) none).size);clear ho hg hat) | (at_builtin;refine app_at (Ei .u64) w.heap.size rfl (.tmp 32) (.tmp 34) 33 30 (.int .u64 0) 8 rfl Tryz.underlying33 (by kernel_rfl) rfl (by decide) b j ys [y] ⟨w4.heap.size,0,none⟩ 1 1 rfl rfl HB5.out HL5.out HZ5.out (by omega) ?_;intro v5 w5 ho hg hat;have HO6:=Aside0.mk ho;have HG6:=Aside0.mk hg;have HAT6:=Aside0.mk hat;clear ho hg hat))
        have hd4 : ∀ k,v4.ownBlock = some k → b.ownBlock ≠ some k:=fun k h1 h2 => by
          rcases HAT4.out with e | e
          · rw [e] at h1;exact HNQ.out k h1 h2
          · rw [e] at h1
            have h3:=(HB3.out.lt k h2).2
            have h4:=Option.some.inj h1
            omega
        go_roundg d
        case measure => omega
        case rel =>
          refine ⟨j + 1,v4,v5,xs ++ [x],ys ++ [y],rfl,rfl,by go_num,⟨by have:=HD.out;omega⟩,by omega,⟨HXN.out.symm⟩,⟨HYN.out.symm⟩,⟨own_tn HO5.out (Tn.of_gb (F:=fun k => b.ownBlock = some k) HG6.out (fun k hk => hk)) (fun k hk e => hd4 k hk e)⟩,HO6,⟨fun k h1 h2 => ?_⟩,⟨(HT4.out.trans' (Tn.alloc w4 (.cells #[.int .u64 y] 30) _)).trans' (Tn.of_gb (F:=fun k => w.heap.size ≤ k) HG6.out (fun k hk => (HB5.out.lt k hk).1))⟩⟩
          rcases HAT6.out with e | e
          · rw [e] at h2;exact hd4 k h1 h2
          · rw [e] at h2
            have h3:=(HO5.out.lt k h1).2
            have h4:=Option.some.inj h2
            omega
  · have HE0:=Aside0.mk h0
    have b0 : (loadE ls == 0) = false:=by rw [beq_eq_false_iff_ne];exact h0
    rw [b0]
    clear b0 h0
    go_wp2
    go_ret2
    exact ⟨HG2.out,_,_,rfl,fun _ => ⟨HA2.out,HB2.out⟩,fun h => absurd h HE0.out⟩
/-- The accounts that were handed in stand. -/
theorem accs_tn {w w' : World} {A : Option Addr} {n : Nat} {ls : List Acc} (h : Rd Ec w A n ls) (t : Tn w w' (fun k => w.heap.size ≤ k)) : Rd Ec w' A n ls:=
  h.tn t (fun ad ha hn e => by
    obtain ⟨x,hx⟩ : ∃ x,ls[0]? = some x:=⟨_,List.getElem?_eq_getElem (by have:=h.1;omega)⟩
    have h1:=acc_cells (by rw [← ha];exact h) hx
    have h2:=World.block_lt_of_cell? w _ h1.1
    rw [H.add_block] at h2
    have h3 : w.heap.size ≤ ad.block:=e
    omega)
/-- What the document's Effective,or Factors,answers: a list. -/
def RLI (w : World) (C : Int) (ls : List Acc) (xs : List Int) (e : Ending) (w' : World) : Prop:=
  w.grownBy w' none ∧ ∃ v,e = .returned v ∧
    (loadE ls ≠ 0 ∨ C ≠ 0 → w'.ownsRow w.heap.size 30 (Ei .u64).sz v 0 (flat (Ei .u64) [])) ∧
    (loadE ls = 0 → C = 0 → w'.ownsRow w.heap.size 30 (Ei .u64).sz v ls.length (flat (Ei .u64) xs))
theorem rEffective_calls (w : World) (a0 a1 a2 a3 a4 a5 a6 a7 : Int) (A : Option Addr) (n c : Nat) (ls : List Acc) (hr : Rd Ec w A n ls) (hc : n ≤ c) (hok : AccOk ls) (hus : AccU ls) :
    Calls Tryz.prog 9 #[.agg #[.int .i64 a0,.int .i64 a1,.int .i64 a2,.int .i64 a3,.int .i64 a4,.int .i64 a5,.int .i64 a6,.int .i64 a7],.slice A n c] w (RLI w (checkV a0 a1 a2 a3 a4 a5 a6 a7) ls (effsV ls (wholeV ls (floorV a0 a1 a2 a3 a4 a5 a6 a7)))):=by
  have hlen:=hr.2.1
  have HN:=Aside0.mk hr.1
  have HR:=Aside0.mk hr
  have HC:=Aside0.mk hc
  have HUS:=Aside0.mk hus
  have HRT:=Am (fun (W : World) (h : Rd Ec W A n ls) => right_calls W A n c ls h hok)
  have HRC:=Am (fun (W : World) => rcheck_calls W a0 a1 a2 a3 a4 a5 a6 a7)
  have HRF:=Am (fun (W : World) => rfloor_calls W a0 a1 a2 a3 a4 a5 a6 a7)
  obtain ⟨CC,hC⟩ : ∃ C,C = checkV a0 a1 a2 a3 a4 a5 a6 a7:=⟨_,rfl⟩
  obtain ⟨F,hF⟩ : ∃ F,F = floorV a0 a1 a2 a3 a4 a5 a6 a7:=⟨_,rfl⟩
  have HFU : Aside0 (U F):=⟨by
    rw [hF]
    unfold floorV
    by_cases h : checkV a0 a1 a2 a3 a4 a5 a6 a7 = 0
    · rw [if_pos h];have:=floor_bd h;unfold U;omega
    · rw [if_neg h];exact ⟨by decide,by decide⟩⟩
  rw [← hC] at HRC ⊢
  rw [← hF] at HRF ⊢
  clear hr hc hok hus hC hF
  go_enter Tryz.func9,Tryz.ntmps9
  go_upto_region 2 with (fail)
  have e1:=World.grownBy_alloc w (.cells #[.int .i64 a0,.int .i64 a1,.int .i64 a2,.int .i64 a3,.int .i64 a4,.int .i64 a5,.int .i64 a6,.int .i64 a7] 23) none
  have e2:=World.grownBy_alloc (w.alloc (.cells #[.int .i64 a0,.int .i64 a1,.int .i64 a2,.int .i64 a3,.int .i64 a4,.int .i64 a5,.int .i64 a6,.int .i64 a7] 23)) (.cells #[] 30) none
  have HX1:=Am (blk_kept (heap_alloc_new w (.cells #[.int .i64 a0,.int .i64 a1,.int .i64 a2,.int .i64 a3,.int .i64 a4,.int .i64 a5,.int .i64 a6,.int .i64 a7] 23)) e2 (by simp))
  have HG1:=Am (World.grownBy.trans e1 e2)
  have HO1:=Am (lit0 (w.alloc (.cells #[.int .i64 a0,.int .i64 a1,.int .i64 a2,.int .i64 a3,.int .i64 a4,.int .i64 a5,.int .i64 a6,.int .i64 a7] 23)) (B:=w.heap.size) (by simp only [World.size_alloc];omega))
  rw [World.size_alloc] at HO1
  obtain ⟨go,hgo⟩ : ∃ g,g = w.heap.size + 1:=⟨_,rfl⟩
  obtain ⟨g7,hg7⟩ : ∃ g,g = w.heap.size:=⟨_,rfl⟩
  rw [← hgo] at HO1 ⊢
  have HX1' : Aside0 (((w.alloc (.cells #[.int .i64 a0,.int .i64 a1,.int .i64 a2,.int .i64 a3,.int .i64 a4,.int .i64 a5,.int .i64 a6,.int .i64 a7] 23)).alloc (.cells #[] 30)).heap[g7]? = some (.cells #[.int .i64 a0,.int .i64 a1,.int .i64 a2,.int .i64 a3,.int .i64 a4,.int .i64 a5,.int .i64 a6,.int .i64 a7] 23 (0,0))):=⟨by rw [hg7];exact HX1.out⟩
  rw [← hg7]
  have HW7:=Am (show w.heap.size ≤ g7 by omega)
  clear e1 e2 hgo hg7 HX1
  generalize (w.alloc (.cells #[.int .i64 a0,.int .i64 a1,.int .i64 a2,.int .i64 a3,.int .i64 a4,.int .i64 a5,.int .i64 a6,.int .i64 a7] 23)).alloc (.cells #[] 30) = w1 at HX1' HG1 HO1 ⊢
  go_wp2_with fail
  refine (HRT.out w1 (HR.out.gb HG1.out)).mono ?_
  rintro e w2 ⟨rfl,hg⟩
  have HX2:=Am (blk_kept HX1'.out hg (by simp))
  have HG2:=Am (World.grownBy.trans HG1.out hg)
  have HO2:=Am (own_kept HO1.out hg (by simp))
  clear hg HRT HX1' HG1 HO1
  by_cases h0 : loadE ls = 0
  · have HE0:=Aside0.mk h0
    have HT0:=Am (tree_of h0)
    have b0 : (loadE ls == 0) = true:=by rw [h0];rfl
    rw [b0]
    clear b0 h0
    have c0:=cell_of (j:=0) HX2.out rfl
    have c1:=cell_of (j:=1) HX2.out rfl
    have c2:=cell_of (j:=2) HX2.out rfl
    have c3:=cell_of (j:=3) HX2.out rfl
    have c4:=cell_of (j:=4) HX2.out rfl
    have c5:=cell_of (j:=5) HX2.out rfl
    have c6:=cell_of (j:=6) HX2.out rfl
    have c7:=cell_of (j:=7) HX2.out rfl
    go_wp2_with fail
    refine (HRC.out w2).mono ?_
    rintro e w3 ⟨rfl,hg⟩
    have HX3:=Am (blk_kept HX2.out hg (by simp))
    have HG3:=Am (World.grownBy.trans HG2.out hg)
    have HO3:=Am (own_kept HO2.out hg (by simp))
    clear hg HRC HX2 HG2 HO2 c0 c1 c2 c3 c4 c5 c6 c7
    by_cases hC0 : CC = 0
    · have HC0:=Aside0.mk hC0
      have b1 : (CC != 0) = false:=by simp [hC0]
      clear hC0
      go_upto_region 5 with (fail)
      have HA3:=Am (lit0 w3 (Nat.le_refl _))
      have HG4:=Am (World.grownBy_alloc w3 (.cells #[] 30) none)
      have hn64 : n ≤ 64:=by have h1:=HT0.out.le;have h2:=HN.out;omega
      go_wp2_with fail
      go_loopg [6,7] n (fun k v6 v7 wr => ∃ (j : Nat) (a : Value) (xs : List Int),a = v6 ∧ v7 = .int .i64 j ∧ Aside0 (j + k = n) ∧ j ≤ n ∧ Aside0 (xs = (ls.map Acc.us).take j) ∧ Aside0 (wr.ownsRow w3.heap.size 30 (Ei .u64).sz a j (flat (Ei .u64) xs)) ∧ Aside0 (Tn w3 wr (fun k => w3.heap.size ≤ k)))
      case atStart => exact ⟨0,_,[],rfl,rfl,⟨by omega⟩,by omega,⟨rfl⟩,HA3,⟨Tn.gb0 HG4.out _⟩⟩
      case round =>
        clear HA3 HG4
        obtain ⟨j,a,xs,rfl,rfl,HD,hj,HXS,HA,HT⟩:=hrel
        cases gk with
        | zero =>
          obtain rfl : j = n:=by have:=HD.out;omega
          have HXF:=Am (show xs = ls.map Acc.us by rw [HXS.out,List.take_of_length_le (by rw [List.length_map,HN.out];exact Nat.le_refl _)])
          have hxl : xs.length = j:=by rw [HXF.out,List.length_map];exact HN.out
          obtain ⟨B,bc,rfl,hB,hbc,-⟩:=own_open hxl HA.out
          have hn0 : 0 < j:=by have h1:=HT0.out.pos;have h2:=HN.out;omega
          have HTw:=Am ((Tn.gb0 HG3.out (fun k => w.heap.size ≤ k)).trans' (HT.out.mono (fun i _ h => by have h2:=HG3.out.size;have h3 : w3.heap.size ≤ i:=h;show w.heap.size ≤ i;omega)))
          have HRr:=Am (accs_tn HR.out HTw.out)
          have HBC:=Aside0.mk hbc
          have HXr:=Am (blk_tn HX3.out HT.out (by show ¬ w3.heap.size ≤ g7;have:=blk_lt' HX3.out;omega))
          have HOr:=Am (own_tn HO3.out HT.out (fun k hk e => by have h1:=(HO3.out.lt k hk).2;have h2 : w3.heap.size ≤ k:=e;omega))
          have HNQ:=Am (show ∀ k,(Value.slice (some ⟨go,0,none⟩) 0 0).ownBlock = some k → (Value.slice B j bc).ownBlock ≠ some k from fun k h1 h2 => by
            have h3:=(HO3.out.lt k h1).2
            have h4:=(HA.out.lt k h2).1
            omega)
          rw [HXF.out] at hB HA
          have HBr:=Aside0.mk hB
          have HRO:=Am (root13_calls wr A j c ls HRr.out HC.out HT0.out)
          clear hxl hB hbc HXS HD HT HX3 HO3
          go_wp2_with fail
          refine (HRO.out).mono ?_
          rintro e w4 ⟨rfl,hg⟩
          have HR4:=Am (HRr.out.gb hg)
          have HB4:=Am (HBr.out.gb hg)
          have HA4:=Am (own_kept HA.out hg (by simp))
          have HX4:=Am (blk_kept HXr.out hg (by simp))
          have HO4:=Am (own_kept HOr.out hg (by simp))
          have HT4:=Am (HTw.out.trans' (Tn.gb0 hg _))
          have HSU:=Am (show Calls Tryz.prog 26 #[.slice A j c,.slice B j bc,.int .i64 0] w4 _ from sum13_calls w4 A j c ls HR4.out HC.out HT0.out HUS.out B bc HB4.out HBC.out 0 hn0)
          clear hg HRO HRr HBr HA HXr HOr HTw
          go_wp2_with fail
          refine (HSU.out).mono ?_
          rintro e w5 ⟨rfl,hg⟩
          obtain ⟨s,hs⟩ : ∃ s,s = sumV ls ((0 : Nat) : Int):=⟨_,rfl⟩
          have HSE:=Aside0.mk hs
          rw [← hs]
          have HR5:=Am (HR4.out.gb hg)
          have HB5:=Am (HB4.out.gb hg)
          have HA5:=Am (own_kept HA4.out hg (by simp))
          have HX5:=Am (blk_kept HX4.out hg (by simp))
          have HO5:=Am (own_kept HO4.out hg (by simp))
          have HT5:=Am (HT4.out.trans' (Tn.gb0 hg _))
          clear hg hs HSU HR4 HB4 HA4 HX4 HO4 HT4
          have c0:=cell_of (j:=0) HX5.out rfl
          have c1:=cell_of (j:=1) HX5.out rfl
          have c2:=cell_of (j:=2) HX5.out rfl
          have c3:=cell_of (j:=3) HX5.out rfl
          have c4:=cell_of (j:=4) HX5.out rfl
          have c5:=cell_of (j:=5) HX5.out rfl
          have c6:=cell_of (j:=6) HX5.out rfl
          have c7:=cell_of (j:=7) HX5.out rfl
          go_wp2_with fail
          refine (HRF.out w5).mono ?_
          rintro e w6 ⟨rfl,hg⟩
          have HR6:=Am (HR5.out.gb hg)
          have HB6:=Am (HB5.out.gb hg)
          have HA6:=Am (own_kept HA5.out hg (by simp))
          have HX6:=Am (blk_kept HX5.out hg (by simp))
          have HO6:=Am (own_kept HO5.out hg (by simp))
          have HT6:=Am (HT5.out.trans' (Tn.gb0 hg _))
          clear hg c0 c1 c2 c3 c4 c5 c6 c7 HR5 HB5 HA5 HX5 HO5 HT5
          have HWV:=Am (show wholeV ls F = if s < F then F else s by unfold wholeV;rw [rd_sums (by omega) (by have:=HT0.out.pos;omega),HSE.out];rfl)
          have HSUU:=Am (show U s by rw [HSE.out];exact sumV_in HUS.out _)
          rcases Int.lt_or_le s F with hsf | hsf
          have b2 : decide (s < F) = true:=decide_eq_true hsf
          have c0:=cell_of (j:=0) HX6.out rfl
          have c1:=cell_of (j:=1) HX6.out rfl
          have c2:=cell_of (j:=2) HX6.out rfl
          have c3:=cell_of (j:=3) HX6.out rfl
          have c4:=cell_of (j:=4) HX6.out rfl
          have c5:=cell_of (j:=5) HX6.out rfl
          have c6:=cell_of (j:=6) HX6.out rfl
          have c7:=cell_of (j:=7) HX6.out rfl
          go_wp2_with fail
          refine (HRF.out w6).mono ?_
          rintro e w7 ⟨rfl,hg⟩
          have HR7:=Am (HR6.out.gb hg)
          have HB7:=Am (HB6.out.gb hg)
          have HA7:=Am (own_kept HA6.out hg (by simp))
          have HO7:=Am (own_kept HO6.out hg (by simp))
          have HT7:=Am (HT6.out.trans' (Tn.gb0 hg _))
          have HWE:=Am (show wholeV ls F = F by rw [HWV.out,if_pos hsf])
          have HWU:=Am (show U (wholeV ls F) by rw [HWE.out];exact HFU.out)
          clear hg c0 c1 c2 c3 c4 c5 c6 c7 b2 hsf HR6 HB6 HA6 HO6 HT6 HX6
          go_upto_region 12 with (fail)
          generalize hvw : Value.int IntKind.u64 F = vw
          have HVW : vw = .int .u64 (wholeV ls F):=by rw [← hvw,HWE.out]
          clear hvw HWE
          obtain ⟨wl,hwl⟩ : ∃ wl,wl = w7:=⟨_,rfl⟩
          rw [← hwl] at HR7 HB7 HA7 HO7 HT7 ⊢
          clear hwl w7
          rotate_left
          have b2 : decide (s < F) = false:=decide_eq_false (by omega)
          obtain ⟨wl,hwl⟩ : ∃ wl,wl = w6:=⟨_,rfl⟩
          rw [← hwl] at HR6 HB6 HA6 HO6 HT6 ⊢
          have HR7:=HR6
          have HB7:=HB6
          have HA7:=HA6
          have HO7:=HO6
          have HT7:=HT6
          have HWE:=Am (show wholeV ls F = s by rw [HWV.out,if_neg (by omega)])
          have HWU:=Am (show U (wholeV ls F) by rw [HWE.out];exact HSUU.out)
          clear hwl hsf HR6 HB6 HA6 HO6 HT6 HX6
          go_wp2_with fail
          generalize hvw : Value.int IntKind.u64 s = vw
          have HVW : vw = .int .u64 (wholeV ls F):=by rw [← hvw,HWE.out]
          clear hvw HWE b2
          rotate_left
          all_goals
            obtain ⟨Wh,hWh⟩ : ∃ Wh,Wh = wholeV ls F:=⟨_,rfl⟩
            have HWH:=Aside0.mk hWh
            rw [← hWh] at HVW HWU
            subst HVW
            clear hWh
            have HAO:=Aside0.mk HA7.out
            go_loopg [5,9] j (fun k v5 v9 wr => ∃ (i : Nat) (b : Value) (ys : List Int),b = v5 ∧ v9 = .int .i64 i ∧ Aside0 (i + k = j) ∧ i ≤ j ∧ Aside0 (ys = (List.range i).map (fun q : Nat => effV ls Wh (q : Int))) ∧ Aside0 (wr.ownsRow w.heap.size 30 (Ei .u64).sz b i (flat (Ei .u64) ys)) ∧ Aside0 (∀ k,b.ownBlock = some k → (Value.slice B j bc).ownBlock ≠ some k) ∧ Aside0 (wr.ownsRow w3.heap.size 30 (Ei .u64).sz (.slice B j bc) j (flat (Ei .u64) (ls.map Acc.us))) ∧ Aside0 (Tn w wr (fun k => w.heap.size ≤ k)))
            case atStart => exact ⟨0,_,[],rfl,rfl,⟨by omega⟩,by omega,⟨rfl⟩,HO7,HNQ,HAO,HT7⟩
            case round =>
              clear HO7 HAO HT7 HA7 HB7 HR7
              obtain ⟨i,b,ys,rfl,rfl,HDI,hi,HYS,HO,HNB,HAB,HT⟩:=hrel
              cases gk with
              | zero =>
                obtain rfl : i = j:=by have:=HDI.out;omega
                go_wp2
                go_ret
                refine ⟨gb_of_tn HT.out (fun k h => h),_,rfl,fun h => ?_,fun _ _ => ?_⟩
                · rcases h with h | h
                  · exact absurd HE0.out h
                  · exact absurd HC0.out h
                · have h1:=HO.out
                  rw [HYS.out] at h1
                  rw [HN.out,← HWH.out]
                  unfold effsV
                  rw [HN.out]
                  exact h1
              | succ d =>
                have hlt : i < j:=by have:=HDI.out;omega
                have hlt1 : decide ((i : Int) < (j : Int)) = true:=decide_eq_true (by omega)
                have hji : (i : Int) < (j : Int):=by omega
                have HEC:=Am (eff13_calls wr A j c ls (accs_tn HR.out HT.out) HC.out HT0.out HUS.out B bc (own_rd (by rw [List.length_map];exact HN.out) HAB.out) HBC.out Wh HWU.out i hlt)
                obtain ⟨u,hu⟩ : ∃ u,u = effV ls Wh (i : Int):=⟨_,rfl⟩
                rw [← hu] at HEC
                have HYN:=Am (show (List.range (i + 1)).map (fun q : Nat => effV ls Wh (q : Int)) = ys ++ [u] by rw [List.range_succ,List.map_append,← HYS.out,hu];rfl)
                clear hu
                go_wp2_with fail
                refine (HEC.out).mono ?_
                rintro e w8 ⟨rfl,hg⟩
                have HO9:=Am (own_kept (own_kept HO.out hg (by simp)) (World.grownBy_alloc w8 (.cells #[.int .u64 u] 30) none) (by simp))
                have HL9:=Am (show Rd (Ei .u64) (w8.alloc (.cells #[.int .u64 u] 30)) (some ⟨w8.heap.size,0,none⟩) 1 [u] from rd_lit (Ei .u64) w8 30 [u] (by simp))
                have HT9:=Am ((HT.out.trans' (Tn.gb0 hg _)).trans' (Tn.alloc w8 (.cells #[.int .u64 u] 30) _))
                have HA9:=Am (own_kept (own_kept HAB.out hg (by simp)) (World.grownBy_alloc w8 (.cells #[.int .u64 u] 30) none) (by simp))
                clear hg HEC
                go_wp2_with (at_builtin;refine app_at (Ei .u64) w.heap.size rfl (.tmp 52) (.tmp 58) 33 30 (.int .u64 0) 8 rfl Tryz.underlying33 (by kernel_rfl) rfl (by decide) b i ys [u] ⟨w8.heap.size,0,none⟩ 1 1 rfl rfl HO9.out HL9.out HT9.out.size (by omega) ?_;intro v4 wx ho hg hat;have HOx:=Aside0.mk ho;have HATx:=Aside0.mk hat;have HTx:=Am (HT9.out.trans' (Tn.of_gb (F:=fun k => w.heap.size ≤ k) hg (fun k hk => (HO9.out.lt k hk).1)));have HAx:=Am (own_tn HA9.out (Tn.of_gb (F:=fun k => b.ownBlock = some k) hg (fun k hk => hk)) (fun k hk e => HNB.out k e hk));clear ho hg hat)
                go_roundg d
                case measure => omega
                case rel =>
                  refine ⟨i + 1,v4,ys ++ [u],rfl,by go_num,⟨by have:=HDI.out;omega⟩,by omega,⟨HYN.out.symm⟩,HOx,⟨fun k h1 h2 => ?_⟩,HAx,HTx⟩
                  rcases HATx.out with e | e
                  · rw [e] at h1;exact HNB.out k h1 h2
                  · rw [e] at h1
                    have h3:=(HA9.out.lt k h2).2
                    have h4:=Option.some.inj h1
                    omega
        | succ d =>
          have hlt : j < n:=by have:=HD.out;omega
          have hlt1 : decide ((j : Int) < (n : Int)) = true:=decide_eq_true (by omega)
          have hji : (j : Int) < (n : Int):=by omega
          have hn0 : 0 < n:=by omega
          obtain ⟨ad,hAd,-⟩:=HR.out.2.2 hn0
          subst hAd
          have HT0w:=Am ((Tn.gb0 HG3.out (fun k => w.heap.size ≤ k)).trans' (HT.out.mono (fun i _ h => by have h2:=HG3.out.size;have h3 : w3.heap.size ≤ i:=h;show w.heap.size ≤ i;omega)))
          have hcu:=us_cell (accs_tn HR.out HT0w.out) hlt
          obtain ⟨u,hu⟩ : ∃ u,u = usV ls (j : Int):=⟨_,rfl⟩
          rw [← hu] at hcu
          have HXN:=Am (show (ls.map Acc.us).take (j + 1) = xs ++ [u] by
            rw [HXS.out,hu,List.take_add_one,← rd_us]
            congr 1
            have hl : j < (ls.map Acc.us).length:=by rw [List.length_map,HN.out];exact hlt
            rw [List.getElem?_eq_getElem hl]
            simp [rd,List.getD_eq_getElem?_getD,List.getElem?_eq_getElem hl])
          have HA3:=Am (own_kept HA.out (World.grownBy_alloc wr (.cells #[.int .u64 u] 30) none) (by simp))
          have HL3:=Am (show Rd (Ei .u64) (wr.alloc (.cells #[.int .u64 u] 30)) (some ⟨wr.heap.size,0,none⟩) 1 [u] from rd_lit (Ei .u64) wr 30 [u] (by simp))
          have HTa:=Am (HT.out.trans' (Tn.alloc wr (.cells #[.int .u64 u] 30) _))
          clear hu
          go_wp2_with (at_builtin;refine app_at (Ei .u64) w3.heap.size rfl (.tmp 27) (.tmp 33) 33 30 (.int .u64 0) 8 rfl Tryz.underlying33 (by kernel_rfl) rfl (by decide) a j xs [u] ⟨wr.heap.size,0,none⟩ 1 1 rfl rfl HA3.out HL3.out HTa.out.size (by omega) ?_;intro v4 w4 ho hg hat;have HO4:=Aside0.mk ho;have HT4:=Am (HTa.out.trans' (Tn.of_gb (F:=fun k => w3.heap.size ≤ k) hg (fun k hk => (HA3.out.lt k hk).1)));clear ho hg hat)
          go_roundg d
          case measure => omega
          case rel => exact ⟨j + 1,v4,xs ++ [u],rfl,by go_num,⟨by have:=HD.out;omega⟩,by omega,⟨HXN.out.symm⟩,HO4,HT4⟩
    · have HC0:=Aside0.mk hC0
      have b1 : (CC != 0) = true:=by simp [hC0]
      clear hC0
      go_wp2
      go_ret
      exact ⟨HG3.out,_,rfl,fun _ => HO3.out,fun _ h => absurd h HC0.out⟩
  · have HE0:=Aside0.mk h0
    have b0 : (loadE ls == 0) = false:=by rw [beq_eq_false_iff_ne];exact h0
    rw [b0]
    clear b0 h0
    go_wp2
    go_ret
    exact ⟨HG2.out,_,rfl,fun _ => HO2.out,fun h _ => absurd h HE0.out⟩
theorem rFactors_calls (w : World) (a0 a1 a2 a3 a4 a5 a6 a7 : Int) (A : Option Addr) (n c : Nat) (ls : List Acc) (hr : Rd Ec w A n ls) (hc : n ≤ c) (hok : AccOk ls) (hus : AccU ls) :
    Calls Tryz.prog 11 #[.agg #[.int .i64 a0,.int .i64 a1,.int .i64 a2,.int .i64 a3,.int .i64 a4,.int .i64 a5,.int .i64 a6,.int .i64 a7],.slice A n c] w (RLI w (checkV a0 a1 a2 a3 a4 a5 a6 a7) ls (factsV ls (wholeV ls (floorV a0 a1 a2 a3 a4 a5 a6 a7)))):=by
  have hlen:=hr.2.1
  have HN:=Aside0.mk hr.1
  have HR:=Aside0.mk hr
  have HEF:=Am (fun (W : World) (h : Rd Ec W A n ls) => rEffective_calls W a0 a1 a2 a3 a4 a5 a6 a7 A n c ls h hc hok hus)
  have HSH:=Am (fun (W : World) (h : Rd Ec W A n ls) => rShares_calls W A n c ls h hc hok)
  obtain ⟨CC,hC⟩ : ∃ C,C = checkV a0 a1 a2 a3 a4 a5 a6 a7:=⟨_,rfl⟩
  obtain ⟨F,hF⟩ : ∃ F,F = floorV a0 a1 a2 a3 a4 a5 a6 a7:=⟨_,rfl⟩
  rw [← hC,← hF] at HEF ⊢
  clear hr hc hok hus hC hF
  go_enter Tryz.func11,Tryz.ntmps11
  go_upto_region 2 with (fail)
  have e1:=World.grownBy_alloc w (.cells #[.int .i64 a0,.int .i64 a1,.int .i64 a2,.int .i64 a3,.int .i64 a4,.int .i64 a5,.int .i64 a6,.int .i64 a7] 23) none
  have e2:=World.grownBy_alloc (w.alloc (.cells #[.int .i64 a0,.int .i64 a1,.int .i64 a2,.int .i64 a3,.int .i64 a4,.int .i64 a5,.int .i64 a6,.int .i64 a7] 23)) (.cells #[] 30) none
  have HX1:=Am (blk_kept (heap_alloc_new w (.cells #[.int .i64 a0,.int .i64 a1,.int .i64 a2,.int .i64 a3,.int .i64 a4,.int .i64 a5,.int .i64 a6,.int .i64 a7] 23)) e2 (by simp))
  have HG1:=Am (World.grownBy.trans e1 e2)
  have HO1:=Am (lit0 (w.alloc (.cells #[.int .i64 a0,.int .i64 a1,.int .i64 a2,.int .i64 a3,.int .i64 a4,.int .i64 a5,.int .i64 a6,.int .i64 a7] 23)) (B:=w.heap.size) (by simp only [World.size_alloc];omega))
  rw [World.size_alloc] at HO1
  obtain ⟨go,hgo⟩ : ∃ g,g = w.heap.size + 1:=⟨_,rfl⟩
  obtain ⟨g7,hg7⟩ : ∃ g,g = w.heap.size:=⟨_,rfl⟩
  rw [← hgo] at HO1 ⊢
  have HX1' : Aside0 (((w.alloc (.cells #[.int .i64 a0,.int .i64 a1,.int .i64 a2,.int .i64 a3,.int .i64 a4,.int .i64 a5,.int .i64 a6,.int .i64 a7] 23)).alloc (.cells #[] 30)).heap[g7]? = some (.cells #[.int .i64 a0,.int .i64 a1,.int .i64 a2,.int .i64 a3,.int .i64 a4,.int .i64 a5,.int .i64 a6,.int .i64 a7] 23 (0,0))):=⟨by rw [hg7];exact HX1.out⟩
  rw [← hg7]
  clear e1 e2 hgo hg7 HX1
  generalize (w.alloc (.cells #[.int .i64 a0,.int .i64 a1,.int .i64 a2,.int .i64 a3,.int .i64 a4,.int .i64 a5,.int .i64 a6,.int .i64 a7] 23)).alloc (.cells #[] 30) = w1 at HX1' HG1 HO1 ⊢
  have HGO:=Am (show go < w1.heap.size from (HO1.out.lt go rfl).2)
  have HGB:=Am (show w.heap.size ≤ go from (HO1.out.lt go rfl).1)
  have c0:=cell_of (j:=0) HX1'.out rfl
  have c1:=cell_of (j:=1) HX1'.out rfl
  have c2:=cell_of (j:=2) HX1'.out rfl
  have c3:=cell_of (j:=3) HX1'.out rfl
  have c4:=cell_of (j:=4) HX1'.out rfl
  have c5:=cell_of (j:=5) HX1'.out rfl
  have c6:=cell_of (j:=6) HX1'.out rfl
  have c7:=cell_of (j:=7) HX1'.out rfl
  go_wp2_with fail
  refine (HEF.out w1 (HR.out.gb HG1.out)).mono ?_
  rintro e w2 ⟨hg,ve,rfl,hE0,hE1⟩
  have HG2:=Am (World.grownBy.trans HG1.out hg)
  have HO2:=Am (own_kept HO1.out hg (by simp))
  have HEA:=Aside0.mk hE0
  have HEB:=Aside0.mk hE1
  clear hg hE0 hE1 HEF HX1' HO1 c0 c1 c2 c3 c4 c5 c6 c7
  go_wp2_with fail
  refine (HSH.out w2 (HR.out.gb HG2.out)).mono ?_
  rintro e w3 ⟨hg,v1,v2,rfl,hS0,hS1⟩
  have HG3:=Am (World.grownBy.trans HG2.out hg)
  have HG23:=Aside0.mk hg
  have HO3:=Am (own_kept HO2.out hg (by simp))
  have HSB:=Aside0.mk hS1
  clear hg hS0 hS1 HSH HO2
  by_cases h0 : loadE ls = 0 ∧ CC = 0
  · obtain ⟨h1,h2⟩:=h0
    have HE0:=Aside0.mk h1
    have HC0:=Aside0.mk h2
    have HT0:=Am (tree_of h1)
    have hn0 : 0 < n:=by have h1:=HT0.out.pos;have h2:=HN.out;omega
    have hlE : (effsV ls (wholeV ls F)).length = n:=by unfold effsV;rw [List.length_map,List.length_range];exact HN.out
    have hlN : (numsV ls).length = n:=by unfold numsV;rw [List.length_map,List.length_range];exact HN.out
    have hlD : (densV ls).length = n:=by unfold densV;rw [List.length_map,List.length_range];exact HN.out
    have hE:=HEB.out h1 h2
    obtain ⟨hS1,hS2⟩:=HSB.out h1
    rw [HN.out] at hE hS1 hS2
    obtain ⟨ub,uc,rfl,-⟩:=own_at hlE hn0 hE
    obtain ⟨nb,nc,rfl,hnc⟩:=own_at hlN hn0 hS1
    obtain ⟨db,dc,rfl,hdc⟩:=own_at hlD hn0 hS2
    have HUO2:=Am (own_kept hE HG23.out (by simp))
    have HNO:=Aside0.mk hS1
    have HDO:=Aside0.mk hS2
    have HBL:=Am (show nb < w3.heap.size ∧ db < w3.heap.size ∧ w2.heap.size ≤ nb ∧ w2.heap.size ≤ db ∧ w1.heap.size ≤ w2.heap.size ∧ w2.heap.size ≤ w3.heap.size from ⟨(hS1.lt nb rfl).2,(hS2.lt db rfl).2,(hS1.lt nb rfl).1,(hS2.lt db rfl).1,by have h1:=(hE.lt ub rfl);omega,by have h1:=(hS1.lt nb rfl);omega⟩)
    have HUBL:=Am (show ub < w3.heap.size from (HUO2.out.lt ub rfl).2)
    have HUBG:=Am (show w1.heap.size ≤ ub ∧ ub < w2.heap.size from hE.lt ub rfl)
    clear h1 h2 hE hS1 hS2
    obtain ⟨Wh,hWh⟩ : ∃ Wh,Wh = wholeV ls F:=⟨_,rfl⟩
    have HWE:=Aside0.mk hWh
    rw [← hWh] at HUO2 hlE
    have HLE:=Aside0.mk hlE
    have HLN:=Aside0.mk hlN
    have HLD:=Aside0.mk hlD
    clear hWh HEA HEB HSB hlE hlN hlD hnc hdc
    go_wp2_with fail
    go_loopg [5,9] n (fun k v5 v9 wr => ∃ (j : Nat) (fs : List Int) (ov : Value),ov = v5 ∧ v9 = .int .i64 j ∧ Aside0 (j + k = n) ∧ j ≤ n ∧ Aside0 (fs = (List.range j).map (fun i : Nat => factV ls Wh (i : Int))) ∧ Aside0 (wr.ownsRow w.heap.size 30 (Ei .u64).sz ov j (flat (Ei .u64) fs)) ∧ Aside0 (∀ k,ov.ownBlock = some k → k = go ∨ w3.heap.size ≤ k) ∧ Aside0 (Tn w3 wr (fun k => k = go ∨ w3.heap.size ≤ k)))
    case atStart => exact ⟨0,[],_,rfl,rfl,⟨by omega⟩,by omega,⟨rfl⟩,HO3,⟨fun k h => .inl (Option.some.inj h).symm⟩,⟨Tn.refl _ _⟩⟩
    case round =>
      clear HO3
      obtain ⟨j,fs,ov,rfl,rfl,HD,hj,HF,HO,HB,HT⟩:=hrel
      cases gk with
      | zero =>
        obtain rfl : j = n:=by have:=HD.out;omega
        go_wp2
        go_ret
        refine ⟨gb_of_tn ((Tn.gb0 HG3.out (fun k => w.heap.size ≤ k)).trans' (HT.out.mono (fun i _ h => by
          have h2:=HG3.out.size
          have h4:=HGB.out
          rcases h with h | h
          · show w.heap.size ≤ i;omega
          · show w.heap.size ≤ i;omega))) (fun k h => h),_,rfl,fun h => ?_,fun _ _ => ?_⟩
        · rcases h with h | h
          · exact absurd HE0.out h
          · exact absurd HC0.out h
        · have h1:=HO.out
          rw [HF.out] at h1
          rw [← HWE.out]
          unfold factsV
          rw [HN.out]
          exact h1
      | succ d =>
        have hlt : j < n:=by have:=HD.out;omega
        have hlt1 : decide ((j : Int) < (n : Int)) = true:=decide_eq_true (by omega)
        have hji : (j : Int) < (n : Int):=by omega
        have h64 : n ≤ 64:=by have h1:=HT0.out.le;have h2:=HN.out;omega
        have hjl : j < ls.length:=by rw [HN.out];exact hlt
        obtain ⟨u,hu⟩ : ∃ u,u = effV ls Wh (j : Int):=⟨_,rfl⟩
        obtain ⟨x,hx⟩ : ∃ x,x = (partV ls (j : Int)).1:=⟨_,rfl⟩
        obtain ⟨y,hy⟩ : ∃ y,y = (partV ls (j : Int)).2:=⟨_,rfl⟩
        obtain ⟨hv,hhv⟩ : ∃ hv,hv = halfV (expV u x y):=⟨_,rfl⟩
        have HHV:=Aside0.mk hhv
        have HNEW:=Am (show (List.range (j + 1)).map (fun i : Nat => factV ls Wh (i : Int)) = fs ++ [hv] by rw [List.range_succ,List.map_append,← HF.out,hhv,hu,hx,hy];rfl)
        have hnp:=num_pos HT0.out j hjl
        have HUU:=Am (show U u by rw [hu];exact eff_U _)
        have HUX:=Am (show U x by rw [hx];unfold U;omega)
        have HUY:=Am (show U y by rw [hy];exact den_U 4 _)
        have HXP:=Am (show 0 < x by rw [hx];omega)
        have HUE:=Am (expV_in HUU.out HUX.out HUY.out HXP.out)
        have HTo : ∀ b,b < w3.heap.size → go < b → ¬ (b = go ∨ w3.heap.size ≤ b):=fun b h h1 h2 => by omega
        have hb1 : go < ub:=by have h1:=HGO.out;have h2:=HUBG.out;omega
        have hb2 : go < nb:=by have h1:=HGO.out;have h2:=HBL.out;omega
        have hb3 : go < db:=by have h1:=HGO.out;have h2:=HBL.out;omega
        have hcu:=num_cell (own_kept (own_tn HUO2.out HT.out (fun k hk => by cases hk;exact HTo _ HUBL.out hb1)) (gb_drew wr none) (by simp)) hlt HLE.out
        rw [show rd (effsV ls Wh) (j : Int) = u by rw [hu];exact rd_range hjl] at hcu
        have hxn:=num_cell (own_kept (own_tn HNO.out HT.out (fun k hk => by cases hk;exact HTo _ HBL.out.1 hb2)) (gb_drew wr none) (by simp)) hlt HLN.out
        have hyn:=num_cell (own_kept (own_tn HDO.out HT.out (fun k hk => by cases hk;exact HTo _ HBL.out.2.1 hb3)) (gb_drew wr none) (by simp)) hlt HLD.out
        rw [show rd (numsV ls) (j : Int) = x by rw [hx];exact rd_range hjl] at hxn
        rw [show rd (densV ls) (j : Int) = y by rw [hy];exact rd_range hjl] at hyn
        have HCX:=Aside0.mk hxn
        have HCY:=Aside0.mk hyn
        have HCU:=Aside0.mk hcu
        have HOd:=Am (own_kept HO.out (gb_drew wr none) (by simp))
        have HTd:=Am (HT.out.trans' (Tn.drew wr _))
        have HNA:=Am (show ∀ k,ov.ownBlock = some k → k ≠ nb ∧ k ≠ db ∧ k ≠ ub from fun k hk => by
          have h1:=HB.out k hk
          have h2:=HBL.out
          have h3:=HUBL.out
          omega)
        have HZ3:=Am (show w.heap.size ≤ w3.heap.size from HG3.out.size)
        clear hu hx hy hhv hnp HTo hxn hyn hcu hb1 hb2 hb3
        go_upto_region 7 with (fail)
        refine start_ (n:=18) (S:=fun w' => w'.cell? ⟨nb,j,none⟩ = some (.int .u64 x) ∧ w'.cell? ⟨db,j,none⟩ = some (.int .u64 y) ∧ w'.cell? ⟨ub,j,none⟩ = some (.int .u64 u)) (ds:=[]) #[nn,nn,nn,nn,nn,nn,nn,nn,nn,nn,nn,nn,nn,nn,nn,nn,nn,nn] (by kernel_rfl) rfl rfl ⟨HCX.out,HCY.out,HCU.out⟩ (fun hHeld => ?_)
        refine pu_ 0 (some 25) #[yy,nn,nn,nn,nn,nn,nn,nn,nn,nn,nn,nn,nn,nn,nn,nn,nn,nn] (by kernel_rfl) ?_
        refine pu_ 1 (some 26) #[yy,yy,nn,nn,nn,nn,nn,nn,nn,nn,nn,nn,nn,nn,nn,nn,nn,nn] (by kernel_rfl) ?_
        refine pu_ 2 (some 27) #[yy,yy,yy,nn,nn,nn,nn,nn,nn,nn,nn,nn,nn,nn,nn,nn,nn,nn] (by kernel_rfl) ?_
        refine pu_ 3 (some 28) #[yy,yy,yy,yy,nn,nn,nn,nn,nn,nn,nn,nn,nn,nn,nn,nn,nn,nn] (by kernel_rfl) ?_
        refine pu_ 5 (some 30) #[yy,yy,yy,yy,nn,yy,nn,nn,nn,nn,nn,nn,nn,nn,nn,nn,nn,nn] (by kernel_rfl) ?_
        refine pu_ 6 (some 31) #[yy,yy,yy,yy,nn,yy,yy,nn,nn,nn,nn,nn,nn,nn,nn,nn,nn,nn] (by kernel_rfl) ?_
        refine pu_ 7 (some 32) #[yy,yy,yy,yy,nn,yy,yy,yy,nn,nn,nn,nn,nn,nn,nn,nn,nn,nn] (by kernel_rfl) ?_
        refine pu_ 9 (some 34) #[yy,yy,yy,yy,nn,yy,yy,yy,nn,yy,nn,nn,nn,nn,nn,nn,nn,nn] (by kernel_rfl) ?_
        refine pu_ 10 (some 35) #[yy,yy,yy,yy,nn,yy,yy,yy,nn,yy,yy,nn,nn,nn,nn,nn,nn,nn] (by kernel_rfl) ?_
        refine pu_ 11 (some 36) #[yy,yy,yy,yy,nn,yy,yy,yy,nn,yy,yy,yy,nn,nn,nn,nn,nn,nn] (by kernel_rfl) ?_
        refine tk_ 4 (some 29) #[yy,yy,yy,yy,yy,yy,yy,yy,nn,yy,yy,yy,nn,nn,nn,nn,nn,nn] (by kernel_rfl) hHeld ?_
        refine tk_ 8 (some 33) #[yy,yy,yy,yy,yy,yy,yy,yy,yy,yy,yy,yy,nn,nn,nn,nn,nn,nn] (by kernel_rfl) hHeld ?_
        refine tk_ 12 (some 37) #[yy,yy,yy,yy,yy,yy,yy,yy,yy,yy,yy,yy,yy,nn,nn,nn,nn,nn] (by kernel_rfl) hHeld ?_
        refine one_ (i:=13) (N:=some 38) #[yy,yy,yy,yy,yy,yy,yy,yy,yy,yy,yy,yy,yy,yy,nn,nn,nn,nn] rfl rfl (by kernel_rfl) (by decide) (fun K hK => ?_)
        refine goes_ Tryz.func33 (by kernel_rfl) rfl #[.int .u64 u,.int .u64 x,.int .u64 y,.bool true] (by rfl) rfl rfl (by simp only [List.map_toArray,List.map_cons,List.map_nil];try rfl) ?_
        with_reducible refine ((exp13_calls _ u x y HUU.out HUX.out HUY.out HXP.out)).mono ?_
        rintro e w10 ⟨rfl,hg⟩
        refine ⟨_,rfl,?_⟩
        have HO10:=Am (own_kept HOd.out hg (by simp));have HT10:=Am (HTd.out.trans' (Tn.gb0 hg _))
        refine hK.out _ _ ⟨hg.cell hHeld.1 (by simp),hg.cell hHeld.2.1 (by simp),hg.cell hHeld.2.2 (by simp)⟩ (fun hHeld => ?_)
        clear hK K
        refine norm_ (a':=?_) ?_ ?_
        rotate_left
        · show Act.put _ (some 38) _ = _
          simp only [NR]
          rfl
        refine one_ (i:=14) (N:=some 39) #[yy,yy,yy,yy,yy,yy,yy,yy,yy,yy,yy,yy,yy,yy,yy,nn,nn,nn] rfl rfl (by kernel_rfl) (by decide) (fun K hK => ?_)
        refine goes_ Tryz.func32 (by kernel_rfl) rfl #[.int .u64 (expV u x y)] (by rfl) rfl rfl (by simp only [List.map_toArray,List.map_cons,List.map_nil];try rfl) ?_
        with_reducible refine ((half07_calls _ _ HUE.out)).mono ?_
        rintro e w11 ⟨rfl,hg⟩
        refine ⟨_,rfl,?_⟩
        have HO11:=Am (own_kept HO10.out hg (by simp));have HT11:=Am (HT10.out.trans' (Tn.gb0 hg _));rw [← HHV.out]
        refine hK.out _ _ ⟨hg.cell hHeld.1 (by simp),hg.cell hHeld.2.1 (by simp),hg.cell hHeld.2.2 (by simp)⟩ (fun hHeld => ?_)
        clear hK K
        refine norm_ (a':=?_) ?_ ?_
        rotate_left
        · show Act.put _ (some 39) _ = _
          simp only [NR]
          rfl
        refine one_ (i:=15) (N:=some 40) #[yy,yy,yy,yy,yy,yy,yy,yy,yy,yy,yy,yy,yy,yy,yy,yy,nn,nn] rfl rfl (by kernel_rfl) (by decide) (fun K hK => ?_)
        refine value_ (w1:=?_) (v:=?_) (by rfl) rfl ?_ ?_
        rotate_left 2
        · go_simp
          constructor
          · rfl
          · rfl
        have HR6:=Am (own_kept HO11.out (World.grownBy_alloc _ (.cells #[.int .u64 hv] 30) none) (by simp));have HT6:=Am (HT11.out.trans' (Tn.alloc w11 (.cells #[.int .u64 hv] 30) _));have HL6:=Am (show Rd (Ei .u64) (w11.alloc (.cells #[.int .u64 hv] 30)) (some ⟨w11.heap.size,0,none⟩) 1 [hv] from rd_lit (Ei .u64) w11 30 [hv] (by simp));have HZ6:=Aside0.mk HT6.out.size
        refine hK.out _ _ ⟨(World.grownBy_alloc _ (.cells #[.int .u64 hv] 30) none).cell hHeld.1 (by simp),(World.grownBy_alloc _ (.cells #[.int .u64 hv] 30) none).cell hHeld.2.1 (by simp),(World.grownBy_alloc _ (.cells #[.int .u64 hv] 30) none).cell hHeld.2.2 (by simp)⟩ (fun hHeld => ?_)
        clear hK K
        refine norm_ (a':=?_) ?_ ?_
        rotate_left
        · show Act.put _ (some 40) _ = _
          simp only [NR]
          rfl
        refine one_ (i:=16) (N:=some 41) #[yy,yy,yy,yy,yy,yy,yy,yy,yy,yy,yy,yy,yy,yy,yy,yy,yy,nn] rfl rfl (by kernel_rfl) (by decide) (fun K hK => ?_)
        refine app_at_step (Ei .u64) (by rfl) rfl w.heap.size (.tmp 25) (.tmp 40) 33 30 (.int .u64 0) 8 rfl Tryz.underlying33 (by kernel_rfl) rfl (by decide) ov j fs [hv] _ 1 1 rfl rfl HR6.out HL6.out (Nat.le_trans HZ3.out HZ6.out) (by omega) ?_
        intro v7 w7 ho hg hat
        have HO7:=Aside0.mk ho;have HAT7:=Aside0.mk hat;have HT7:=Am (HT6.out.trans' (Tn.of_gb (F:=fun k => k = go ∨ w3.heap.size ≤ k) hg (fun k hk => HB.out k hk)));have HC7a:=Am (hg.cell hHeld.1 (fun e => (HNA.out nb e.symm).1 rfl));have HC7b:=Am (hg.cell hHeld.2.1 (fun e => (HNA.out db e.symm).2.1 rfl));have HC7c:=Am (hg.cell hHeld.2.2 (fun e => (HNA.out ub e.symm).2.2 rfl));clear ho hg hat
        refine hK.out _ _ ⟨HC7a.out,HC7b.out,HC7c.out⟩ (fun hHeld => ?_)
        clear hK K
        refine norm_ (a':=?_) ?_ ?_
        rotate_left
        · show Act.put _ (some 41) _ = _
          simp only [NR]
          rfl
        refine pu_ 17 (some 5) #[yy,yy,yy,yy,yy,yy,yy,yy,yy,yy,yy,yy,yy,yy,yy,yy,yy,yy] (by kernel_rfl) ?_
        refine done_ (by kernel_rfl) ?_
        go_wp2_with fail
        go_roundg d
        case measure => omega
        case rel =>
          refine ⟨j + 1,fs ++ [hv],_,rfl,by go_num,⟨by have:=HD.out;omega⟩,by omega,⟨HNEW.out.symm⟩,HO7,⟨fun k hk => ?_⟩,HT7⟩
          rcases HAT7.out with e | e
          · rw [e] at hk;exact HB.out k hk
          · rw [e] at hk
            obtain rfl:=Option.some.inj hk
            exact .inr HZ6.out
  · have HNE:=Aside0.mk h0
    have hE:=HEA.out (by rcases Classical.em (loadE ls = 0) with h | h;exact .inr (fun h2 => h0 ⟨h,h2⟩);exact .inl h)
    obtain ⟨B,bc,rfl,-,-,-⟩:=own_open rfl hE
    clear hE h0 HEA HEB HSB
    go_wp2_with fail
    go_loopg [5,9] 0 (fun k v5 v9 wr => v5 = .slice (some ⟨go,0,none⟩) 0 0 ∧ v9 = .int .i64 0 ∧ k = 0 ∧ wr = w3)
    case atStart => exact ⟨rfl,rfl,rfl,rfl⟩
    case round =>
      obtain ⟨rfl,rfl,rfl,rfl⟩:=hrel
      go_wp2
      go_ret
      exact ⟨HG3.out,_,rfl,fun _ => HO3.out,fun h1 h2 => absurd ⟨h1,h2⟩ HNE.out⟩
end Go.Proofs.YtbhijfbjdbjpbaaGreatDoor.T
namespace Go.Proofs.YtbhijfbjdbjpbaaGreatDoor.T
open Go.RowKit Go.Proofs.YtbhijfbjdbjpbaaGreatDoorW.PrintWords Go.Proofs.YtbhijfbjdbjpbaaGreatDoorW.PrintLast Go.Proofs.YtbhijfbjdbjpbaaGreatDoor.H
set_option linter.unusedVariables false
set_option linter.unusedSimpArgs false
/-- Two lists that read alike are alike. -/
theorem words_calls (w : World) (A B : Option Addr) (n c d : Nat) (xs : List Int) (ha : Rd (Ei .u64) w A n xs) (hb : Rd (Ei .u64) w B n xs) :
    Calls Tryz.prog 19 #[.slice A n c,.slice B n d] w fun e w' => e = .returned (.bool true) ∧ w.grownBy w' none:=by
  have HA:=Aside0.mk ha
  have HB:=Aside0.mk hb
  have hn:=ha.2.1
  clear ha hb
  go_enter Tryz.func19,Tryz.ntmps19
  go_wp2_with fail
  go_loopg [5] n (fun k v5 wr => ∃ (j : Nat),v5 = .int .i64 j ∧ Aside0 (j + k = n) ∧ j ≤ n ∧ Aside0 (w.grownBy wr none))
  case atStart => exact ⟨0,rfl,⟨by omega⟩,by omega,⟨gb_refl _ _⟩⟩
  case round =>
    obtain ⟨j,rfl,HD,hj,HG⟩:=hrel
    cases gk with
    | zero =>
      obtain rfl : j = n:=by have:=HD.out;omega
      go_wp2
      go_ret
      exact ⟨rfl,HG.out⟩
    | succ d =>
      have hlt : j < n:=by have:=HD.out;omega
      have hlt1 : decide ((j : Int) < n) = true:=decide_eq_true (by omega)
      have hji : (j : Int) < (n : Int):=by omega
      obtain ⟨ad,rfl,h1⟩:=(HA.out.gb HG.out).int j hlt
      obtain ⟨bd,rfl,h2⟩:=(HB.out.gb HG.out).int j hlt
      go_upto_region 6 with (fail)
      go_quiet (fail)
      go_wp2_with fail
      go_roundg d
      case measure => omega
      case rel => exact ⟨j + 1,by go_num,⟨by have:=HD.out;omega⟩,by omega,⟨World.grownBy.trans HG.out (gb_drewN _ _ none)⟩⟩
/-- A list that was handed out. -/
structure Sl where
  A : Option Addr
  n : Nat
  c : Nat
  xs : List Int
def Es : Enc Sl:=⟨1,fun s => [.slice s.A s.n s.c],fun _ => rfl,fun _ v hv => by simp at hv;subst hv;rfl,by decide⟩
/-- The lists that were handed out,and what they must read as,are read. -/
structure Look (w : World) (h : Nat) (OA : Option Addr) (oc : Nat) (WA : Option Addr) (wc : Nat) (os ws : List Sl) : Prop where
  blk : ∃ x,w.heap[h]? = some (.cells #[.slice OA os.length oc,.slice WA ws.length wc,x] 29 (0,0))
  ro : Rd Es w OA os.length os
  rw_ : Rd Es w WA ws.length ws
  eq : os.map Sl.xs = ws.map Sl.xs
  so : ∀ s ∈ os,Rd (Ei .u64) w s.A s.n s.xs
  sw : ∀ s ∈ ws,Rd (Ei .u64) w s.A s.n s.xs
theorem Look.len {w h OA oc WA wc os ws} (k : Look w h OA oc WA wc os ws) : os.length = ws.length:=by
  have:=congrArg List.length k.eq;simpa using this
theorem Look.gb {w w' h OA oc WA wc os ws} (k : Look w h OA oc WA wc os ws) (hg : w.grownBy w' none) : Look w' h OA oc WA wc os ws:=
  ⟨(let ⟨x,hx⟩:=k.blk;⟨x,blk_kept hx hg (by simp)⟩),k.ro.gb hg,k.rw_.gb hg,k.eq,fun s hs => (k.so s hs).gb hg,fun s hs => (k.sw s hs).gb hg⟩
theorem Look.c0 {w h OA oc WA wc os ws} (k : Look w h OA oc WA wc os ws) : w.cell? ⟨h,0,none⟩ = some (.slice OA os.length oc):=(let ⟨_,hx⟩:=k.blk;cell_of hx rfl)
theorem Look.c1 {w h OA oc WA wc os ws} (k : Look w h OA oc WA wc os ws) : w.cell? ⟨h,1,none⟩ = some (.slice WA os.length wc):=by rw [k.len];obtain ⟨x,hx⟩:=k.blk;exact cell_of hx rfl
theorem Look.xs_at {w h OA oc WA wc os ws} (k : Look w h OA oc WA wc os ws) {j : Nat} {s t : Sl} (hs : os[j]? = some s) (ht : ws[j]? = some t) : s.xs = t.xs:=by
  have h1 : (os.map Sl.xs)[j]? = some s.xs:=by rw [List.getElem?_map,hs];rfl
  have h2 : (ws.map Sl.xs)[j]? = some t.xs:=by rw [List.getElem?_map,ht];rfl
  rw [k.eq,h2] at h1
  exact (Option.some.inj h1).symm
theorem es_at {w : World} {A : Option Addr} {n : Nat} {os : List Sl} (h : Rd Es w A n os) {j : Nat} {s : Sl} (hs : os[j]? = some s) : ∃ ad,A = some ad ∧ w.cell? (ad.add j) = some (.slice s.A s.n s.c):=by
  have hj : j < n:=by have:=(List.getElem?_eq_some_iff.1 hs).1;rw [h.1] at this;exact this
  obtain ⟨ad,x,e,hx,hc⟩:=h.at_ j hj
  obtain rfl : x = s:=Option.some.inj (hx.symm.trans hs)
  have:=hc 0 _ rfl
  exact ⟨ad,e,by simpa [Es] using this⟩
theorem es_cell {w : World} {ad : Addr} {n : Nat} {os : List Sl} (h : Rd Es w (some ad) n os) {j : Nat} {s : Sl} (hs : os[j]? = some s) : w.cell? (ad.add j) = some (.slice s.A s.n s.c):=by
  obtain ⟨a,e,hc⟩:=es_at h hs
  obtain rfl : ad = a:=Option.some.inj e
  exact hc
theorem holds_calls (w : World) (h : Nat) (OA : Option Addr) (oc : Nat) (WA : Option Addr) (wc : Nat) (os ws : List Sl) (hk : Look w h OA oc WA wc os ws) :
    Calls Tryz.prog 34 #[.pointer (some ⟨h,0,none⟩)] w fun e w' => e = .returned (.bool true) ∧ w.grownBy w' none:=by
  have HL:=Aside0.mk hk
  have HLen:=Aside0.mk hk.len
  obtain ⟨n,hn⟩ : ∃ n,n = os.length:=⟨_,rfl⟩
  have HN:=Aside0.mk hn
  have hN:=hk.ro.2.1
  rw [← hn] at hN
  clear hk hn
  go_enter Tryz.func34,Tryz.ntmps34
  go_wp2_with fail
  go_loopg [3] n (fun k v3 wr => ∃ (j : Nat),v3 = .int .i64 j ∧ Aside0 (j + k = n) ∧ j ≤ n ∧ Aside0 (w.grownBy wr none))
  case atStart => exact ⟨0,rfl,⟨by omega⟩,by omega,⟨gb_refl _ _⟩⟩
  case round =>
    obtain ⟨j,rfl,HD,hj,HG⟩:=hrel
    have HL1:=Am (HL.out.gb HG.out)
    have hc0:=HL1.out.c0
    rw [← HN.out] at hc0
    cases gk with
    | zero =>
      obtain rfl : j = n:=by have:=HD.out;omega
      go_wp2
      go_ret
      exact ⟨rfl,HG.out⟩
    | succ d =>
      have hlt : j < n:=by have:=HD.out;omega
      have hlt1 : decide ((j : Int) < n) = true:=decide_eq_true (by omega)
      have hji : (j : Int) < (n : Int):=by omega
      obtain ⟨s,hs⟩ : ∃ s,os[j]? = some s:=⟨_,List.getElem?_eq_getElem (by rw [← HN.out];exact hlt)⟩
      obtain ⟨t,ht⟩ : ∃ t,ws[j]? = some t:=⟨_,List.getElem?_eq_getElem (by rw [← HLen.out,← HN.out];exact hlt)⟩
      have HS:=Aside0.mk hs
      have HT:=Aside0.mk ht
      obtain ⟨ao,rfl,-⟩:=es_at HL1.out.ro hs
      obtain ⟨aw,rfl,-⟩:=es_at HL1.out.rw_ ht
      have HLd:=Am (HL1.out.gb (gb_drew wr none))
      have HGd:=Am (World.grownBy.trans HG.out (gb_drew wr none))
      have hnn : t.n = s.n:=by have h1:=(HLd.out.sw t (List.mem_of_getElem? ht)).1;have h2:=(HLd.out.so s (List.mem_of_getElem? hs)).1;rw [HL1.out.xs_at hs ht] at h2;omega
      have HC : Aside0 (Calls Tryz.prog 19 #[.slice s.A s.n s.c,.slice t.A t.n t.c] wr.drew fun e w' => e = .returned (.bool true) ∧ wr.drew.grownBy w' none):=⟨by
        have h1:=HLd.out.sw t (List.mem_of_getElem? ht)
        rw [hnn,← HL1.out.xs_at hs ht] at h1
        rw [hnn]
        exact words_calls wr.drew s.A t.A s.n s.c t.c s.xs (HLd.out.so s (List.mem_of_getElem? hs)) h1⟩
      clear hnn
      have HC0:=Am (show wr.drew.cell? ⟨h,0,none⟩ = some (.slice (some ao) n oc) by rw [HN.out];exact HLd.out.c0)
      have HC1:=Am (show wr.drew.cell? ⟨h,1,none⟩ = some (.slice (some aw) n wc) by rw [HN.out];exact HLd.out.c1)
      clear hs ht
      go_wp2_with fail
      refine start_ (n:=16) (S:=fun w' => w'.cell? ⟨h,0,none⟩ = some (.slice (some ao) n oc) ∧ w'.cell? ⟨h,1,none⟩ = some (.slice (some aw) n wc) ∧ w'.cell? (ao.add j) = some (.slice s.A s.n s.c) ∧ w'.cell? (aw.add j) = some (.slice t.A t.n t.c)) (ds:=[]) #[nn,nn,nn,nn,nn,nn,nn,nn,nn,nn,nn,nn,nn,nn,nn,nn] (by kernel_rfl) rfl rfl ⟨HC0.out,HC1.out,es_cell HLd.out.ro HS.out,es_cell HLd.out.rw_ HT.out⟩ (fun hHeld => ?_)
      refine pu_ 0 (some 14) #[yy,nn,nn,nn,nn,nn,nn,nn,nn,nn,nn,nn,nn,nn,nn,nn] (by kernel_rfl) ?_
      refine pu_ 1 (some 15) #[yy,yy,nn,nn,nn,nn,nn,nn,nn,nn,nn,nn,nn,nn,nn,nn] (by kernel_rfl) ?_
      refine pu_ 2 (some 16) #[yy,yy,yy,nn,nn,nn,nn,nn,nn,nn,nn,nn,nn,nn,nn,nn] (by kernel_rfl) ?_
      refine pu_ 4 (some 18) #[yy,yy,yy,nn,yy,nn,nn,nn,nn,nn,nn,nn,nn,nn,nn,nn] (by kernel_rfl) ?_
      refine pu_ 7 (some 21) #[yy,yy,yy,nn,yy,nn,nn,yy,nn,nn,nn,nn,nn,nn,nn,nn] (by kernel_rfl) ?_
      refine pu_ 8 (some 22) #[yy,yy,yy,nn,yy,nn,nn,yy,yy,nn,nn,nn,nn,nn,nn,nn] (by kernel_rfl) ?_
      refine pu_ 9 (some 23) #[yy,yy,yy,nn,yy,nn,nn,yy,yy,yy,nn,nn,nn,nn,nn,nn] (by kernel_rfl) ?_
      refine pu_ 11 (some 25) #[yy,yy,yy,nn,yy,nn,nn,yy,yy,yy,nn,yy,nn,nn,nn,nn] (by kernel_rfl) ?_
      refine tk_ 3 (some 17) #[yy,yy,yy,yy,yy,nn,nn,yy,yy,yy,nn,yy,nn,nn,nn,nn] (by kernel_rfl) hHeld ?_
      refine pu_ 5 (some 19) #[yy,yy,yy,yy,yy,yy,nn,yy,yy,yy,nn,yy,nn,nn,nn,nn] (by kernel_rfl) ?_
      refine tk_ 6 (some 20) #[yy,yy,yy,yy,yy,yy,yy,yy,yy,yy,nn,yy,nn,nn,nn,nn] (by kernel_rfl) hHeld ?_
      refine tk_ 10 (some 24) #[yy,yy,yy,yy,yy,yy,yy,yy,yy,yy,yy,yy,nn,nn,nn,nn] (by kernel_rfl) hHeld ?_
      refine pu_ 12 (some 26) #[yy,yy,yy,yy,yy,yy,yy,yy,yy,yy,yy,yy,yy,nn,nn,nn] (by kernel_rfl) ?_
      refine tk_ 13 (some 27) #[yy,yy,yy,yy,yy,yy,yy,yy,yy,yy,yy,yy,yy,yy,nn,nn] (by kernel_rfl) hHeld ?_
      refine one_ (i:=14) (N:=some 28) #[yy,yy,yy,yy,yy,yy,yy,yy,yy,yy,yy,yy,yy,yy,yy,nn] rfl rfl (by kernel_rfl) (by decide) (fun K hK => ?_)
      refine goes_ Tryz.func19 (by kernel_rfl) rfl #[.slice s.A s.n s.c,.slice t.A t.n t.c] (by rfl) rfl rfl (by simp only [List.map_toArray,List.map_cons,List.map_nil];try rfl) ?_
      with_reducible refine (HC.out).mono ?_
      rintro e w3 ⟨rfl,hg⟩
      refine ⟨_,rfl,?_⟩
      have HG3:=Am (World.grownBy.trans HGd.out hg);have HL3:=Am (HLd.out.gb hg);have HC03:=Am (hg.cell HC0.out (by simp));have HC13:=Am (hg.cell HC1.out (by simp));clear hg HC HGd HLd HC0 HC1
      refine hK.out _ _ ⟨HC03.out,HC13.out,es_cell HL3.out.ro HS.out,es_cell HL3.out.rw_ HT.out⟩ (fun hHeld => ?_)
      clear hK K
      refine norm_ (a':=?_) ?_ ?_
      rotate_left
      · show Act.put _ (some 28) _ = _
        simp only [NR]
        rfl
      refine pu_ 15 (some 4) #[yy,yy,yy,yy,yy,yy,yy,yy,yy,yy,yy,yy,yy,yy,yy,yy] (by kernel_rfl) ?_
      refine done_ (by kernel_rfl) ?_
      go_wp2_with fail
      go_roundg d
      case measure => omega
      case rel => exact ⟨j + 1,by go_num,⟨by have:=HD.out;omega⟩,by omega,HG3⟩
def SlOwn (w : World) (P : Nat) (s : Sl) : Prop:=w.ownsRow P 30 (Ei .u64).sz (.slice s.A s.n s.c) s.n (flat (Ei .u64) s.xs)
def blkOf (A : Option Addr) (k : Nat) : Prop:=∃ ad,A = some ad ∧ ad.block = k
theorem blk_own {A : Option Addr} {n c k : Nat} : (Value.slice A n c).ownBlock = some k ↔ blkOf A k:=by
  cases A with
  | none => simp [Value.ownBlock,blkOf]
  | some ad => simp [Value.ownBlock,blkOf]
theorem SlOwn.len {w P s} (h : SlOwn w P s) : s.xs.length = s.n:=by
  have:=h.1
  rw [flat_len] at this
  simpa [Ei] using this
theorem SlOwn.rd {w P s} (h : SlOwn w P s) : Rd (Ei .u64) w s.A s.n s.xs:=own_rd h.len h
theorem SlOwn.lt {w P s} (h : SlOwn w P s) {k : Nat} (hk : blkOf s.A k) : P ≤ k ∧ k < w.heap.size:=World.ownsRow.lt h k (blk_own.2 hk)
theorem SlOwn.tn {w w' P s} {F : Nat → Prop} (h : SlOwn w P s) (hg : Tn w w' F) (hne : ∀ k,blkOf s.A k → ¬ F k) : SlOwn w' P s:=own_tn h hg (fun k hk => hne k (blk_own.1 hk))
theorem gb_row {w w1 w2 : World} {v : Value} (h : w.grownBy w1 none) (hg : w1.grownBy w2 v.ownBlock) (hb : ∀ k,v.ownBlock = some k → w.heap.size ≤ k) : w.grownBy w2 none:=by
  cases hv : v.ownBlock with
  | none => rw [hv] at hg;exact World.grownBy.trans h hg
  | some k => rw [hv] at hg;exact gb_new h hg (hb k hv)
/-- The lists that were handed out,each of a block of its own,with what they must read as. f tells whose a block is. -/
structure Kept (w : World) (P h : Nat) (OA : Option Addr) (oc : Nat) (WA : Option Addr) (wc : Nat) (os ws : List Sl) (f : Nat → Int) : Prop where
  blk : w.heap[h]? = some (.cells #[.slice OA os.length oc,.slice WA ws.length wc,.int .i64 0] 29 (0,0))
  ho : w.ownsRow P 33 Es.sz (.slice OA os.length oc) os.length (flat Es os)
  hw : w.ownsRow P 33 Es.sz (.slice WA ws.length wc) ws.length (flat Es ws)
  eq : os.map Sl.xs = ws.map Sl.xs
  so : ∀ s ∈ os,SlOwn w P s
  sw : ∀ s ∈ ws,SlOwn w P s
  base : P ≤ h
  f0 : f h = 0
  f1 : ∀ k,blkOf OA k → f k = 1
  f2 : ∀ k,blkOf WA k → f k = 2
  fo : ∀ (i : Nat) (s : Sl),os[i]? = some s → ∀ k,blkOf s.A k → f k = 3 + 2 * (i : Int)
  fw : ∀ (i : Nat) (s : Sl),ws[i]? = some s → ∀ k,blkOf s.A k → f k = 4 + 2 * (i : Int)
section
variable {w w' : World} {P h : Nat} {OA : Option Addr} {oc : Nat} {WA : Option Addr} {wc : Nat} {os ws : List Sl} {f f' : Nat → Int}
theorem Kept.look (k : Kept w P h OA oc WA wc os ws f) : Look w h OA oc WA wc os ws:=
  ⟨⟨_,k.blk⟩,own_rd rfl k.ho,own_rd rfl k.hw,k.eq,fun s hs => (k.so s hs).rd,fun s hs => (k.sw s hs).rd⟩
theorem Kept.len (k : Kept w P h OA oc WA wc os ws f) : os.length = ws.length:=k.look.len
theorem Kept.lt (k : Kept w P h OA oc WA wc os ws f) {T : Int → Prop} (hl : Lt w f w' f' T) (hT : ∀ c,0 ≤ c → ¬ T c) : Kept w' P h OA oc WA wc os ws f':=by
  have e0:=k.f0
  have lo:=fun i hi => (k.ho.lt i (blk_own.2 hi)).2
  have lw:=fun i hi => (k.hw.lt i (blk_own.2 hi)).2
  have ls : ∀ s ∈ os,∀ i,blkOf s.A i → i < w.heap.size:=fun s hs i hi => ((k.so s hs).lt hi).2
  have lv : ∀ s ∈ ws,∀ i,blkOf s.A i → i < w.heap.size:=fun s hs i hi => ((k.sw s hs).lt hi).2
  refine ⟨blk_tn k.blk hl.tn (hT _ (by rw [e0];exact Int.le_refl _)),own_tn k.ho hl.tn (fun i hi => hT _ (by rw [k.f1 i (blk_own.1 hi)];decide)),own_tn k.hw hl.tn (fun i hi => hT _ (by rw [k.f2 i (blk_own.1 hi)];decide)),k.eq,?_,?_,k.base,?_,?_,?_,?_,?_⟩
  · intro s hs
    obtain ⟨i,hi⟩:=List.getElem?_of_mem hs
    exact (k.so s hs).tn hl.tn (fun j hj => hT _ (by rw [k.fo i s hi j hj];omega))
  · intro s hs
    obtain ⟨i,hi⟩:=List.getElem?_of_mem hs
    exact (k.sw s hs).tn hl.tn (fun j hj => hT _ (by rw [k.fw i s hi j hj];omega))
  · rw [hl.lab h (blk_lt' k.blk)];exact e0
  · intro i hi;rw [hl.lab i (lo i hi)];exact k.f1 i hi
  · intro i hi;rw [hl.lab i (lw i hi)];exact k.f2 i hi
  · intro i s hs j hj;rw [hl.lab j (ls s (List.mem_of_getElem? hs) j hj)];exact k.fo i s hs j hj
  · intro i s hs j hj;rw [hl.lab j (lv s (List.mem_of_getElem? hs) j hj)];exact k.fw i s hs j hj
end
def K012 (c : Int) : Prop:=c = 0 ∨ c = 1 ∨ c = 2
/-- What keeping a list leaves. -/
def KeepI (w : World) (P h : Nat) (os ws : List Sl) (f : Nat → Int) (s : Sl) (e : Ending) (w' : World) : Prop:=
  e = .returned (.bool true) ∧ ∃ OA oc WA wc m f',m.xs = s.xs ∧ Kept w' P h OA oc WA wc (os ++ [s]) (ws ++ [m]) f' ∧ Lt w f w' f' K012
theorem keep_calls (w : World) (P h : Nat) (OA : Option Addr) (oc : Nat) (WA : Option Addr) (wc : Nat) (os ws : List Sl) (f : Nat → Int) (s : Sl) (hk : Kept w P h OA oc WA wc os ws f) (hs : SlOwn w P s) (hf : ∀ k,blkOf s.A k → f k = 3 + 2 * (os.length : Int)) (hn : os.length ≤ 1000) (hsn : s.n ≤ 1000) (B : Option Addr) (bc : Nat) (hB : Rd (Ei .u64) w B s.n s.xs) (hBf : ∀ k,blkOf B k → ¬ K012 (f k)) :
    Calls Tryz.prog 7 #[.pointer (some ⟨h,0,none⟩),.slice s.A s.n s.c,.slice B s.n bc] w (KeepI w P h os ws f s):=by
  have HK:=Aside0.mk hk
  have HS:=Aside0.mk hs
  have HF:=Aside0.mk hf
  have HBR:=Aside0.mk hB
  have HBF:=Aside0.mk hBf
  have HLen:=Aside0.mk hk.len
  have hwn : ws.length ≤ 1000:=by rw [← hk.len];exact hn
  have HSL : Aside0 (s.xs.length = s.n):=⟨hs.len⟩
  have HO0:=Am (show (w.alloc (.cells #[] 30)).ownsRow w.heap.size 30 (Ei .u64).sz (.slice (some ⟨w.heap.size,0,none⟩) 0 0) 0 (flat (Ei .u64) []) from World.ownsRow_lit w #[] 0 (Nat.le_refl _) (by simp [maxLen]) (by simp))
  have HR0 : Aside0 (Rd (Ei .u64) (w.alloc (.cells #[] 30)) B s.n s.xs):=⟨hB.gb (World.grownBy_alloc w (.cells #[] 30) none)⟩
  have HG0:=Am (World.grownBy_alloc w (.cells #[] 30) none)
  obtain ⟨no,hno⟩ : ∃ q,q = os.length:=⟨_,rfl⟩
  obtain ⟨nw,hnw⟩ : ∃ q,q = ws.length:=⟨_,rfl⟩
  have HNO:=Aside0.mk hno
  have HNW:=Aside0.mk hnw
  rw [← hno] at hn
  rw [← hnw] at hwn
  clear hk hs hf hno hnw hB hBf
  go_enter Tryz.func7,Tryz.ntmps7
  go_upto_region 4 with (first | (at_builtin;refine app (Ei .u64) w.heap.size rfl (.tmp 9) (.tmp 10) 33 30 (.int .u64 0) 8 rfl Tryz.underlying33 (by kernel_rfl) rfl (by decide) (.slice (some ⟨w.heap.size,0,none⟩) 0 0) 0 [] s.xs _ s.n _ rfl rfl rfl HO0.out HR0.out (by simp) (by omega) ?_;intro v1 w1 ho hg _;rw [List.nil_append,Nat.zero_add] at ho;obtain ⟨A1,c1,rfl,-,-,-⟩:=own_open HSL.out ho;have HG1:=Am (gb_row HG0.out hg (fun k hk => by simp [Value.ownBlock] at hk;omega));have HO1:=Aside0.mk ho;have hc1:=cell_of (j:=0) (v:=.slice OA no oc) (blk_kept HK.out.blk HG1.out (by simp)) (by rw [HNO.out];rfl);have HOA:=Am (show (w1.alloc (.cells #[.slice s.A s.n s.c] 33)).ownsRow P 33 Es.sz (.slice OA no oc) no (flat Es os) by rw [HNO.out];exact own_kept (own_kept HK.out.ho HG1.out (by simp)) (World.grownBy_alloc w1 _ none) (by simp));have HRA:=Am (show Rd Es (w1.alloc (.cells #[.slice s.A s.n s.c] 33)) (some ⟨w1.heap.size,0,none⟩) 1 [s] from rd_lit Es w1 33 [s] (by simp));have HSA : Aside0 (P ≤ (w1.alloc (.cells #[.slice s.A s.n s.c] 33)).heap.size):=⟨by have h1:=HK.out.base;have h2:=blk_lt' HK.out.blk;have h3:=HG1.out.size;simp;omega⟩;clear ho hg) | (at_builtin;refine app_at Es P rfl (.tmp 16) (.tmp 18) 27 33 (.slice none 0 0) 24 rfl Tryz.underlying27 (by kernel_rfl) rfl (by decide) (.slice OA no oc) no os [s] ⟨w1.heap.size,0,none⟩ 1 1 rfl rfl HOA.out HRA.out HSA.out (by omega) ?_;intro v2 w2 ho hg hat;have hl2 : (os ++ [s]).length = no + 1:=(by rw [List.length_append,HNO.out];rfl);obtain ⟨A2,c2,rfl,-,-,-⟩:=own_open hl2 ho;have HO2:=Aside0.mk ho;have HG2:=Aside0.mk hg;have HA2:=Aside0.mk hat;have HB2:=Am (blk_tn (blk_kept HK.out.blk (World.grownBy.trans HG1.out (World.grownBy_alloc w1 (.cells #[.slice s.A s.n s.c] 33) none)) (by simp)) (Tn.of_gb hg (F:=fun k => f k = 1) (fun k hk => HK.out.f1 k (blk_own.1 hk))) (by rw [HK.out.f0];decide));have hk2:=cell_of (j:=0) (v:=.slice OA no oc) HB2.out (by rw [HNO.out];rfl);have hf2:=frozen_of (j:=0) HB2.out;clear ho hg hat hl2))
  have HB3:=Am (show (w2.setCell ⟨h,0,none⟩ (.slice A2 (no + 1) c2)).heap[h]? = some (.cells #[.slice A2 (no + 1) c2,.slice WA nw wc,.int .i64 0] 29 (0,0)) by
    have:=blk_set 0 (.slice A2 (no + 1) c2) HB2.out
    rw [HNW.out];simpa using this)
  have hoa : ∀ k,blkOf OA k → f k = 1:=HK.out.f1
  have hlo : ∀ k,blkOf OA k → k < w.heap.size:=fun k hk => (HK.out.ho.lt k (blk_own.2 hk)).2
  have hh : h < w.heap.size:=blk_lt' HK.out.blk
  have hz1 : w.heap.size ≤ w1.heap.size:=HG1.out.size
  have HT12 : Tn w1 w2 (fun k => blkOf OA k):=(Tn.alloc w1 _ _).trans' (Tn.of_gb HG2.out (fun k hk => blk_own.1 hk))
  have HT3:=Am (show Tn w (w2.setCell ⟨h,0,none⟩ (.slice A2 (no + 1) c2)) (fun k => f k = 0 ∨ f k = 1) from
    ((Tn.gb0 HG1.out _).trans HT12 (fun i _ hi => .inr (hoa i hi))).trans' (Tn.set h 0 _ (.inl HK.out.f0)))
  have HT13:=Am (show Tn w1 (w2.setCell ⟨h,0,none⟩ (.slice A2 (no + 1) c2)) (fun k => k < w.heap.size) from
    (HT12.mono (fun i _ hi => hlo i hi)).trans' (Tn.set h 0 _ hh))
  have ha2 : ∀ k,blkOf A2 k → (k < w.heap.size ∧ f k = 1) ∨ w1.heap.size ≤ k:=fun k hk => by
    rcases HA2.out with e | e
    · rw [blk_own.2 hk] at e
      have:=blk_own.1 e.symm
      exact .inl ⟨hlo k this,hoa k this⟩
    · rw [blk_own.2 hk] at e
      have:=Option.some.inj e
      simp at this
      exact .inr (by omega)
  have HA3:=Aside0.mk ha2
  have HO3:=Am (show (w2.setCell ⟨h,0,none⟩ (.slice A2 (no + 1) c2)).ownsRow P 33 Es.sz (.slice A2 (no + 1 : Nat) c2) (no + 1) (flat Es (os ++ [s])) from
    own_tn HO2.out (Tn.set h 0 _ (F:=fun k => k = h) rfl) (fun k hk he => by
      subst he
      rcases ha2 k (blk_own.1 hk) with ⟨_,h2⟩ | h2
      · rw [HK.out.f0] at h2;cases h2
      · omega))
  have HS3:=Am (show w1.heap.size ≤ (w2.setCell ⟨h,0,none⟩ (.slice A2 (no + 1) c2)).heap.size from HT13.out.size)
  generalize w2.setCell ⟨h,0,none⟩ (.slice A2 (no + 1) c2) = w3 at HB3 HT3 HT13 HO3 HS3 ⊢
  have HWA:=Am (show (w3.alloc (.cells #[.slice A1 s.n c1] 33)).ownsRow P 33 Es.sz (.slice WA nw wc) nw (flat Es ws) by
    rw [HNW.out]
    exact own_kept (own_tn HK.out.hw HT3.out (fun k hk he => by have:=HK.out.f2 k (blk_own.1 hk);omega)) (World.grownBy_alloc w3 _ none) (by simp))
  have HRB:=Am (show Rd Es (w3.alloc (.cells #[.slice A1 s.n c1] 33)) (some ⟨w3.heap.size,0,none⟩) 1 [⟨A1,s.n,c1,s.xs⟩] from rd_lit Es w3 33 [⟨A1,s.n,c1,s.xs⟩] (by simp))
  have HSB : Aside0 (P ≤ (w3.alloc (.cells #[.slice A1 s.n c1] 33)).heap.size):=⟨by have h1:=HK.out.base;have h3:=HS3.out;simp;omega⟩
  have hc3:=cell_of (j:=1) (v:=.slice WA nw wc) HB3.out rfl
  clear hoa hlo ha2 HT12 hc1 hk2 hf2
  go_wp2_with (at_builtin;refine app_at Es P rfl (.tmp 26) (.tmp 28) 27 33 (.slice none 0 0) 24 rfl Tryz.underlying27 (by kernel_rfl) rfl (by decide) (.slice WA nw wc) nw ws [⟨A1,s.n,c1,s.xs⟩] ⟨w3.heap.size,0,none⟩ 1 1 rfl rfl HWA.out HRB.out HSB.out (by omega) ?_;intro v4 w4 ho hg hat;have hl4 : (ws ++ [(⟨A1,s.n,c1,s.xs⟩ : Sl)]).length = nw + 1:=(by rw [List.length_append,HNW.out];rfl);obtain ⟨A4,c4,rfl,-,-,-⟩:=own_open hl4 ho;have HO4:=Aside0.mk ho;have HG4:=Aside0.mk hg;have HA4:=Aside0.mk hat;have HB4:=Am (blk_tn (blk_kept HB3.out (World.grownBy_alloc w3 (.cells #[.slice A1 s.n c1] 33) none) (by simp)) (Tn.of_gb hg (F:=fun k => f k = 2) (fun k hk => HK.out.f2 k (blk_own.1 hk))) (by rw [HK.out.f0];decide));have hk4:=cell_of (j:=1) (v:=.slice WA nw wc) HB4.out rfl;have hf4:=frozen_of (j:=1) HB4.out;clear ho hg hat hl4)
  have hh : h < w.heap.size:=blk_lt' HK.out.blk
  have hz1 : w.heap.size ≤ w1.heap.size:=HG1.out.size
  have hz3:=HS3.out
  have hwa : ∀ k,blkOf WA k → f k = 2:=HK.out.f2
  have hwl : ∀ k,blkOf WA k → k < w.heap.size:=fun k hk => (HK.out.hw.lt k (blk_own.2 hk)).2
  have HT34 : Tn w3 (w4.setCell ⟨h,1,none⟩ (.slice A4 (nw + 1 : Nat) c4)) (fun k => blkOf WA k ∨ k = h):=
    ((Tn.alloc w3 _ _).trans' (Tn.of_gb HG4.out (fun k hk => .inl (blk_own.1 hk)))).trans' (Tn.set h 1 _ (.inr rfl))
  have HTw : Tn w (w4.setCell ⟨h,1,none⟩ (.slice A4 (nw + 1 : Nat) c4)) (fun k => K012 (f k)):=
    (HT3.out.mono (fun i _ hi => hi.elim .inl (fun h => .inr (.inl h)))).trans HT34 (fun i _ hi => hi.elim (fun h => .inr (.inr (hwa i h))) (fun e => .inl (by rw [e];exact HK.out.f0)))
  have HT1 : Tn w1 (w4.setCell ⟨h,1,none⟩ (.slice A4 (nw + 1 : Nat) c4)) (fun k => k < w.heap.size):=
    HT13.out.trans HT34 (fun i _ hi => hi.elim (fun h => hwl i h) (fun e => by rw [e];exact hh))
  have ha1 : ∀ k,blkOf A1 k → w.heap.size ≤ k ∧ k < w1.heap.size:=fun k hk => World.ownsRow.lt HO1.out k (blk_own.2 hk)
  have ha2:=HA3.out
  have ha2l : ∀ k,blkOf A2 k → k < w3.heap.size:=fun k hk => (HO3.out.lt k (blk_own.2 hk)).2
  have ha4 : ∀ k,blkOf A4 k → (k < w.heap.size ∧ f k = 2) ∨ w3.heap.size ≤ k:=fun k hk => by
    rcases HA4.out with e | e
    · rw [blk_own.2 hk] at e
      have:=blk_own.1 e.symm
      exact .inl ⟨hwl k this,hwa k this⟩
    · rw [blk_own.2 hk] at e
      have:=Option.some.inj e
      simp at this
      exact .inr (by omega)
  have HKE:=Am (show ∃ OA oc WA wc m f',m.xs = s.xs ∧ Kept (w4.setCell ⟨h,1,none⟩ (.slice A4 (nw + 1 : Nat) c4)) P h OA oc WA wc (os ++ [s]) (ws ++ [m]) f' ∧ Lt w f (w4.setCell ⟨h,1,none⟩ (.slice A4 (nw + 1 : Nat) c4)) f' K012 by
    obtain ⟨f',hf'⟩ : ∃ f' : Nat → Int,∀ k,f' k = if k < w.heap.size then f k else if k < w1.heap.size then 4 + 2 * (os.length : Int) else if k < w3.heap.size then 1 else 2:=⟨_,fun _ => rfl⟩
    have fold : ∀ k,k < w.heap.size → f' k = f k:=fun k hk => by rw [hf',if_pos hk]
    have hnew : ∀ s' ∈ os,SlOwn (w4.setCell ⟨h,1,none⟩ (.slice A4 (nw + 1 : Nat) c4)) P s':=fun s' hs' => by
      obtain ⟨i,hi⟩:=List.getElem?_of_mem hs'
      exact (HK.out.so s' hs').tn HTw (fun k hk hT => by
        have:=HK.out.fo i s' hi k hk
        rcases hT with h | h | h <;> omega)
    have hnw : ∀ s' ∈ ws,SlOwn (w4.setCell ⟨h,1,none⟩ (.slice A4 (nw + 1 : Nat) c4)) P s':=fun s' hs' => by
      obtain ⟨i,hi⟩:=List.getElem?_of_mem hs'
      exact (HK.out.sw s' hs').tn HTw (fun k hk hT => by
        have:=HK.out.fw i s' hi k hk
        rcases hT with h | h | h <;> omega)
    refine ⟨A2,c2,A4,c4,⟨A1,s.n,c1,s.xs⟩,f',rfl,⟨?_,?_,?_,?_,?_,?_,HK.out.base,?_,?_,?_,?_,?_⟩,⟨HTw,fold⟩⟩
    · have:=blk_set 1 (.slice A4 (nw + 1 : Nat) c4) HB4.out
      rw [List.length_append,List.length_append,← HNO.out,← HNW.out]
      simpa using this
    · rw [List.length_append,← HNO.out]
      exact own_tn HO3.out HT34 (fun k hk he => by
        have h1:=ha2 k (blk_own.1 hk)
        rcases he with e | e
        · have:=hwa k e
          have:=hwl k e
          omega
        · subst e
          have:=HK.out.f0
          omega)
    · rw [List.length_append,← HNW.out]
      exact own_tn HO4.out (Tn.set h 1 _ (F:=fun k => k = h) rfl) (fun k hk he => by
        subst he
        have h1:=ha4 k (blk_own.1 hk)
        have:=HK.out.f0
        omega)
    · rw [List.map_append,List.map_append,HK.out.eq];rfl
    · intro s' hs'
      rcases List.mem_append.1 hs' with h1 | h1
      · exact hnew s' h1
      · obtain rfl : s' = s:=by simpa using h1
        exact HS.out.tn HTw (fun k hk hT => by
          have:=HF.out k hk
          rcases hT with h | h | h <;> omega)
    · intro s' hs'
      rcases List.mem_append.1 hs' with h1 | h1
      · exact hnw s' h1
      · obtain rfl : s' = ⟨A1,s.n,c1,s.xs⟩:=by simpa using h1
        refine SlOwn.tn (s:=⟨A1,s.n,c1,s.xs⟩) (w:=w1) ?_ HT1 (fun k hk => by have:=(ha1 k hk).1;omega)
        exact own_mono HO1.out (by have:=HK.out.base;omega)
    · rw [fold h hh];exact HK.out.f0
    · intro k hk
      rcases ha2 k hk with ⟨h1,h2⟩ | h1
      · rw [fold k h1];exact h2
      · have:=ha2l k hk
        rw [hf',if_neg (by omega),if_neg (by omega),if_pos this]
    · intro k hk
      rcases ha4 k hk with ⟨h1,h2⟩ | h1
      · rw [fold k h1];exact h2
      · rw [hf',if_neg (by omega),if_neg (by omega),if_neg (by omega)]
    · intro i s' hi k hk
      rcases Nat.lt_or_ge i os.length with h1 | h1
      · rw [List.getElem?_append_left h1] at hi
        rw [fold k ((HK.out.so s' (List.mem_of_getElem? hi)).lt hk).2]
        exact HK.out.fo i s' hi k hk
      · rw [List.getElem?_append_right h1] at hi
        have h2 : i - os.length < 1:=by simpa using (List.getElem?_eq_some_iff.1 hi).1
        have h3 : i = os.length:=by omega
        subst h3
        simp at hi
        subst hi
        rw [fold k (HS.out.lt hk).2]
        exact HF.out k hk
    · intro i s' hi k hk
      rcases Nat.lt_or_ge i ws.length with h1 | h1
      · rw [List.getElem?_append_left h1] at hi
        rw [fold k ((HK.out.sw s' (List.mem_of_getElem? hi)).lt hk).2]
        exact HK.out.fw i s' hi k hk
      · rw [List.getElem?_append_right h1] at hi
        have h2 : i - ws.length < 1:=by simpa using (List.getElem?_eq_some_iff.1 hi).1
        have h3 : i = ws.length:=by omega
        subst h3
        simp at hi
        subst hi
        obtain ⟨h4,h5⟩:=ha1 k hk
        rw [hf',if_neg (by omega),if_pos h5,HLen.out])
  have hw1 : Rd (Ei .u64) (w4.setCell ⟨h,1,none⟩ (.slice A4 (nw + 1 : Nat) c4)) s.A s.n s.xs:=HS.out.rd.tn HTw (fun ad ha _ hT => by
    have:=HF.out ad.block ⟨ad,ha,rfl⟩
    rcases hT with h | h | h <;> omega)
  have hw2 : Rd (Ei .u64) (w4.setCell ⟨h,1,none⟩ (.slice A4 (nw + 1 : Nat) c4)) B s.n s.xs:=HBR.out.tn HTw (fun ad ha _ hT => HBF.out ad.block ⟨ad,ha,rfl⟩ hT)
  refine (words_calls _ s.A B s.n s.c bc s.xs hw1 hw2).mono ?_
  rintro e w5 ⟨rfl,hg⟩
  have HG5:=Aside0.mk hg
  clear hg hw1 hw2
  go_wp2
  go_ret
  obtain ⟨OA',oc',WA',wc',m',f',e1,e2,e3⟩:=HKE.out
  exact ⟨rfl,OA',oc',WA',wc',m',f',e1,e2.lt (Lt.gb (T:=fun _ => False) HG5.out) (fun _ _ => id),e3.trans (Lt.gb HG5.out)⟩
end Go.Proofs.YtbhijfbjdbjpbaaGreatDoor.T
namespace Go.Proofs.YtbhijfbjdbjpbaaGreatDoor.T
open Go.RowKit Go.Proofs.YtbhijfbjdbjpbaaGreatDoorW.PrintWords Go.Proofs.YtbhijfbjdbjpbaaGreatDoorW.PrintLast Go.Proofs.YtbhijfbjdbjpbaaGreatDoor.H
set_option linter.unusedVariables false
set_option linter.unusedSimpArgs false
/-- append to a row of one's own: it lies where it lay,or all that was there stands. -/
theorem app_at2 {P : Program} {ops : Array Oper} {rest : List Oper} {o : Oper} {a : Act} {Q : Exit → Act → World → Prop} {α : Type} (E : Enc α) {w : World} (base : Nat) (hgd : o.guard = none) (s x : Operand) (t e : TypeId) (z : Value) (bytes : Nat)
    (ho : o.op = .call { callee:=.builtin .append,args:=#[s,x],argTypes:=#[t,t] })
    (ht : P.underlying t = some (.slice e)) (hinfo : (P.info? e).map (fun i => (i.zero,i.size,i.bytes)) = some (some z,E.sz,bytes)) (hz : z.cells.size = E.sz) (hb0 : 0 < bytes)
    (v : Value) (n : Nat) (xs ys : List α) (ad : Addr) (m c : Nat) (hs : a.eval s = v) (hx : a.eval x = .slice (some ad) m c)
    (HO : w.ownsRow base e E.sz v n (flat E xs)) (HR : Rd E w (some ad) m ys) (hbase : base ≤ w.heap.size) (hl : (n + m) * bytes ≤ 140737488355328)
    (h : ∀ v1 w1,w1.ownsRow base e E.sz v1 (n + m) (flat E (xs ++ ys)) → w.grownBy w1 v.ownBlock → (v1.ownBlock = v.ownBlock ∨ v1.ownBlock = some w.heap.size ∧ w.grownBy w1 none) → wpList P ops Q rest (a.put o.dst v1) w1) : wpList P ops Q (o :: rest) a w:=by
  obtain ⟨i0,hi,hz0,hz1,hz2⟩:=info_parts hinfo
  have hlen : n + m ≤ 140737488355328:=Nat.le_trans (Nat.le_mul_of_pos_right _ hb0) hl
  have hnews : ∀ j u,(flat E ys)[j]? = some u → w.cell? (ad.add j) = some u:=fun j u hu => by
    rcases Nat.eq_zero_or_pos m with h0 | h0
    · obtain rfl : ys = []:=List.eq_nil_of_length_eq_zero (HR.1.trans h0)
      simp [flat_nil] at hu
    · obtain ⟨ad',e',hc⟩:=HR.2.2 h0
      injection e' with e'
      subst e'
      exact hc j u hu
  have hln : (flat E ys).length = m * E.sz:=by rw [flat_len,HR.1]
  obtain ⟨v1,w1,hr,h2,h3,_,h5⟩:=run_append_own_at (P:=P) w base t o.type e i0 z E.sz bytes ht hi hz0 hz1 hz2 hz E.pos v n (flat E xs) HO ad m c (flat E ys) hln hnews (flat_oneCell E ys) (by simp only [maxLen];omega) hl hbase
  have h6 : v1.ownBlock = v.ownBlock ∨ v1.ownBlock = some w.heap.size ∧ w.grownBy w1 none:=by
    rcases HO.2 with ⟨rfl,_⟩ | ⟨g,cap,cur,rfl,_,hg,hnc,hcm,hcs,htake⟩
    · rcases h5 with h5 | h5
      · exact .inl h5
      · exact .inr ⟨h5,h3⟩
    · by_cases hroom : n + m ≤ cap
      · have hr2:=run_append_room (P:=P) w t o.type e i0 ht hi g n cap cur hg ad m c (flat E ys) (by rw [hln,hz1]) hnews (flat_oneCell E ys) hroom (by rw [hln,hcs,hz1,← Nat.add_mul];exact Nat.mul_le_mul_right _ hroom)
        rw [hr] at hr2
        injection hr2 with e1 e2
        subst e1
        exact .inl rfl
      · have hr2:=run_append_grow (P:=P) w t o.type e i0 z ht hi hz0 ⟨g,0,none⟩ n cap (flat E xs) (by rw [HO.1,hz1]) (HO.cells (g:=g) rfl) ad m c (flat E ys) (by rw [hln,hz1]) hnews (by omega) (by omega) (growslice_fits (by omega) (by rw [hz2];exact hl))
        rw [hr] at hr2
        injection hr2 with e1 e2
        subst e1 e2
        exact .inr ⟨rfl,World.grownBy.trans (gb_drew w none) (World.grownBy_alloc _ _ none)⟩
  refine wpList_plain hgd fun K hK => ?_
  unfold Oper.wp execOp
  simp only [ho,resolve,invoke,builtin,Sem.run_bind,Sem.run_pure,Result.andThen_ok,List.map_toArray,List.map_cons,List.map_nil,hs,hx,hr]
  exact hK _ _ (h v1 w1 (by rw [flat_append];exact h2) h3 h6)
theorem es_set {os : List Sl} {i : Nat} {s s' : Sl} (hs : os[i]? = some s) (hA : s'.A = s.A) (hn : s'.n = s.n) (hc : s'.c = s.c) : flat Es (os.set i s') = flat Es os:=by
  unfold flat
  congr 1
  rw [List.map_set]
  apply List.ext_getElem?
  intro j
  rw [List.getElem?_set]
  by_cases e : i = j
  · subst e
    have hl:=(List.getElem?_eq_some_iff.1 hs).1
    rw [if_pos rfl,if_pos (by simpa using hl),List.getElem?_map,hs]
    simp [Es,hA,hn,hc]
  · rw [if_neg e]
theorem set_at {os : List Sl} {i j : Nat} {s' q : Sl} (h : (os.set i s')[j]? = some q) : (j = i ∧ q = s') ∨ (j ≠ i ∧ os[j]? = some q):=by
  rw [List.getElem?_set] at h
  by_cases e : i = j
  · subst e
    rw [if_pos rfl] at h
    split at h
    · exact .inl ⟨rfl,(Option.some.inj h).symm⟩
    · cases h
  · rw [if_neg e] at h;exact .inr ⟨fun h => e h.symm,h⟩
def setY (s : Sl) (k : Nat) (y : Int) : Sl:=⟨s.A,s.n,s.c,s.xs.set k y⟩
theorem SlOwn.put {w : World} {P sb : Nat} {s : Sl} (h : SlOwn w P s) (hA : s.A = some ⟨sb,0,none⟩) {k : Nat} (hk : k < s.n) (y : Int) : SlOwn (w.setCell ⟨sb,k,none⟩ (.int .u64 y)) P (setY s k y):=by
  obtain ⟨A,n,c,xs⟩:=s
  obtain rfl : A = some ⟨sb,0,none⟩:=hA
  have hl:=h.len
  have:=own_put h k 0 _ y (.int .u64 y) (List.getElem?_eq_getElem (by omega)) (by decide) rfl
  simpa [Ei,SlOwn,setY] using this
section
variable {w : World} {P h : Nat} {OA : Option Addr} {oc : Nat} {WA : Option Addr} {wc : Nat} {os ws : List Sl} {f : Nat → Int}
/-- Both of a pair are written over alike. -/
theorem Kept.put (K : Kept w P h OA oc WA wc os ws f) {i : Nat} {s t : Sl} (hs : os[i]? = some s) (ht : ws[i]? = some t) {sb tb k : Nat} (hA : s.A = some ⟨sb,0,none⟩) (hB : t.A = some ⟨tb,0,none⟩) (hk : k < s.n) (y : Int) :
    Kept ((w.setCell ⟨sb,k,none⟩ (.int .u64 y)).setCell ⟨tb,k,none⟩ (.int .u64 y)) P h OA oc WA wc (os.set i (setY s k y)) (ws.set i (setY t k y)) f:=by
  have l1:=K.fo i s hs sb ⟨_,hA,rfl⟩
  have l2:=K.fw i t ht tb ⟨_,hB,rfl⟩
  have hxs:=K.look.xs_at hs ht
  have hnt : k < t.n:=by have h1:=(K.so s (List.mem_of_getElem? hs)).len;have h2:=(K.sw t (List.mem_of_getElem? ht)).len;rw [hxs] at h1;omega
  have hT : Tn w ((w.setCell ⟨sb,k,none⟩ (.int .u64 y)).setCell ⟨tb,k,none⟩ (.int .u64 y)) (fun j => f j = 3 + 2 * (i : Int) ∨ f j = 4 + 2 * (i : Int)):=
    (Tn.set sb k _ (.inl l1)).trans' (Tn.set tb k _ (.inr l2))
  have f0:=K.f0
  refine ⟨blk_tn K.blk hT (by omega) |> fun e => by simpa using e,?_,?_,?_,?_,?_,K.base,K.f0,K.f1,K.f2,?_,?_⟩
  · rw [es_set (s':=setY s k y) hs rfl rfl rfl,List.length_set]
    exact own_tn K.ho hT (fun j hj e => by have:=K.f1 j (blk_own.1 hj);omega)
  · rw [es_set (s':=setY t k y) ht rfl rfl rfl,List.length_set]
    exact own_tn K.hw hT (fun j hj e => by have:=K.f2 j (blk_own.1 hj);omega)
  · rw [List.map_set,List.map_set,K.eq];simp [setY,hxs]
  · intro q hq
    obtain ⟨j,hj⟩:=List.getElem?_of_mem hq
    rcases set_at hj with ⟨rfl,rfl⟩ | ⟨hne,hj⟩
    · exact ((K.so s (List.mem_of_getElem? hs)).put hA hk y).tn (Tn.set tb k _ (F:=fun j => j = tb) rfl) (fun j hj e => by
        have:=K.fo _ s hs j hj
        rw [e] at this
        omega)
    · exact (K.so q (List.mem_of_getElem? hj)).tn hT (fun b hb e => by have:=K.fo j q hj b hb;omega)
  · intro q hq
    obtain ⟨j,hj⟩:=List.getElem?_of_mem hq
    rcases set_at hj with ⟨rfl,rfl⟩ | ⟨hne,hj⟩
    · exact ((K.sw t (List.mem_of_getElem? ht)).tn (Tn.set sb k _ (F:=fun j => j = sb) rfl) (fun j hj e => by
        have:=K.fw _ t ht j hj
        rw [e] at this
        omega)).put hB hnt y
    · exact (K.sw q (List.mem_of_getElem? hj)).tn hT (fun b hb e => by have:=K.fw j q hj b hb;omega)
  · intro j q hj b hb
    rcases set_at hj with ⟨rfl,rfl⟩ | ⟨hne,hj⟩
    · exact K.fo _ s hs b hb
    · exact K.fo j q hj b hb
  · intro j q hj b hb
    rcases set_at hj with ⟨rfl,rfl⟩ | ⟨hne,hj⟩
    · exact K.fw _ t ht b hb
    · exact K.fw j q hj b hb
end
end Go.Proofs.YtbhijfbjdbjpbaaGreatDoor.T
namespace Go.Proofs.YtbhijfbjdbjpbaaGreatDoor.T
open Go.RowKit Go.Proofs.YtbhijfbjdbjpbaaGreatDoorW.PrintWords Go.Proofs.YtbhijfbjdbjpbaaGreatDoorW.PrintLast Go.Proofs.YtbhijfbjdbjpbaaGreatDoor.H
set_option linter.unusedVariables false
set_option linter.unusedSimpArgs false
/-- The lists that were handed out (os,ws),the first few grown (ls,ms). -/
structure Grow (w : World) (P h : Nat) (OA : Option Addr) (oc : Nat) (WA : Option Addr) (wc : Nat) (os ws ls ms : List Sl) (f : Nat → Int) : Prop where
  blk : w.heap[h]? = some (.cells #[.slice OA (os ++ ls).length oc,.slice WA (ws ++ ms).length wc,.int .i64 0] 29 (0,0))
  ho : w.ownsRow P 33 Es.sz (.slice OA (os ++ ls).length oc) (os ++ ls).length (flat Es (os ++ ls))
  hw : w.ownsRow P 33 Es.sz (.slice WA (ws ++ ms).length wc) (ws ++ ms).length (flat Es (ws ++ ms))
  eq : (os ++ ls).map Sl.xs = (ws ++ ms).map Sl.xs
  lel : ls.length = ms.length
  len : os.length = ws.length
  so : ∀ (i : Nat) (s : Sl),os[i]? = some s → ls.length ≤ i → SlOwn w P s
  ro : ∀ s ∈ os ++ ls,Rd (Ei .u64) w s.A s.n s.xs
  rw_ : ∀ s ∈ ws ++ ms,Rd (Ei .u64) w s.A s.n s.xs
  base : P ≤ h
  f0 : f h = 0
  f1 : ∀ k,blkOf OA k → f k = 1
  f2 : ∀ k,blkOf WA k → f k = 2
  fo : ∀ (i : Nat) (s : Sl),os[i]? = some s → ∀ k,blkOf s.A k → f k = 3 + 2 * (i : Int) ∧ k < w.heap.size
  fw : ∀ (i : Nat) (s : Sl),ws[i]? = some s → ∀ k,blkOf s.A k → f k = 4 + 2 * (i : Int) ∧ k < w.heap.size
  fl : ∀ (i : Nat) (s : Sl),ls[i]? = some s → ∀ k,blkOf s.A k → f k = 3 + 2 * (i : Int) ∧ k < w.heap.size
  fm : ∀ (i : Nat) (s : Sl),ms[i]? = some s → ∀ k,blkOf s.A k → f k = 4 + 2 * (i : Int) ∧ k < w.heap.size
theorem Kept.grow {w P h OA oc WA wc os ws f} (K : Kept w P h OA oc WA wc os ws f) : Grow w P h OA oc WA wc os ws [] [] f:=by
  have l:=K.look
  refine ⟨by simpa using K.blk,by simpa using K.ho,by simpa using K.hw,by simpa using K.eq,rfl,K.len,fun i s hs _ => K.so s (List.mem_of_getElem? hs),by simpa using l.so,by simpa using l.sw,K.base,K.f0,K.f1,K.f2,?_,?_,by simp,by simp⟩
  · intro i s hs k hk
    exact ⟨K.fo i s hs k hk,((K.so s (List.mem_of_getElem? hs)).lt hk).2⟩
  · intro i s hs k hk
    exact ⟨K.fw i s hs k hk,((K.sw s (List.mem_of_getElem? hs)).lt hk).2⟩
theorem Grow.look {w P h OA oc WA wc os ws ls ms f} (G : Grow w P h OA oc WA wc os ws ls ms f) : Look w h OA oc WA wc (os ++ ls) (ws ++ ms):=
  ⟨⟨_,G.blk⟩,own_rd rfl G.ho,own_rd rfl G.hw,G.eq,G.ro,G.rw_⟩
theorem Grow.gb {w w' P h OA oc WA wc os ws ls ms f} (G : Grow w P h OA oc WA wc os ws ls ms f) (hg : w.grownBy w' none) : Grow w' P h OA oc WA wc os ws ls ms f:=by
  have T:=Tn.gb0 hg (fun _ => False)
  refine ⟨blk_tn G.blk T id,own_tn G.ho T (fun _ _ => id),own_tn G.hw T (fun _ _ => id),G.eq,G.lel,G.len,fun i s hs hl => (G.so i s hs hl).tn T (fun _ _ => id),fun s hs => (G.ro s hs).gb hg,fun s hs => (G.rw_ s hs).gb hg,G.base,G.f0,G.f1,G.f2,?_,?_,?_,?_⟩
  · exact fun i s hs k hk => ⟨(G.fo i s hs k hk).1,Nat.lt_of_lt_of_le (G.fo i s hs k hk).2 hg.size⟩
  · exact fun i s hs k hk => ⟨(G.fw i s hs k hk).1,Nat.lt_of_lt_of_le (G.fw i s hs k hk).2 hg.size⟩
  · exact fun i s hs k hk => ⟨(G.fl i s hs k hk).1,Nat.lt_of_lt_of_le (G.fl i s hs k hk).2 hg.size⟩
  · exact fun i s hs k hk => ⟨(G.fm i s hs k hk).1,Nat.lt_of_lt_of_le (G.fm i s hs k hk).2 hg.size⟩
/-- While one of the lists grows. -/
structure In (w0 w : World) (P : Nat) (f : Nat → Int) (j : Nat) (s : Sl) (k : Nat) (l m : Sl) : Prop where
  xs : l.xs = m.xs
  n : l.n = s.n + k
  pre : l.xs.take s.n = s.xs
  lo : SlOwn w P l
  mo : SlOwn w P m
  rs : Rd (Ei .u64) w s.A s.n s.xs
  fr : Tn w0 w (fun b => b < w0.heap.size ∧ f b = 3 + 2 * (j : Int))
  bl : ∀ b,blkOf l.A b → (f b = 3 + 2 * (j : Int) ∧ b < w0.heap.size) ∨ w0.heap.size ≤ b
  bm : ∀ b,blkOf m.A b → w0.heap.size ≤ b
  lm : ∀ b,blkOf l.A b → ¬ blkOf m.A b
theorem sl_form {w P s} (h : SlOwn w P s) {b : Nat} (hb : blkOf s.A b) : s.A = some ⟨b,0,none⟩:=by
  obtain ⟨ad,h1,h2⟩:=hb
  have:=(own_form h).2 ad h1
  rw [h1,this,← h2]
/-- A list that reads as the head of one that grows in its place,or elsewhere. -/
theorem rd_grown {w1 w2 : World} {P : Nat} {s l l' : Sl} {y : Int} (h : Rd (Ei .u64) w1 s.A s.n s.xs) (hf : ∀ b,blkOf s.A b → s.A = some ⟨b,0,none⟩) (hl : l.n = l.xs.length)
    (hat : (∀ b,blkOf l'.A b ↔ blkOf l.A b) ∧ w1.grownBy w2 (Value.slice l.A l.n l.c).ownBlock ∨ w1.grownBy w2 none) (ho : SlOwn w2 P l') (hx : l'.xs = l.xs ++ [y]) (pre : l.xs.take s.n = s.xs) (hn : s.n ≤ l.n) : Rd (Ei .u64) w2 s.A s.n s.xs:=by
  rcases hat with ⟨hb,hg⟩ | hg
  · by_cases hc : ∃ b,blkOf l.A b ∧ blkOf s.A b
    · obtain ⟨b,h1,h2⟩:=hc
      have e1:=sl_form ho ((hb b).2 h1)
      have e2:=hf b h2
      have hr:=ho.rd
      have hn':=hr.1
      have:=hr.take_ s.n (by rw [← hn',hx,List.length_append];omega)
      rw [hx,List.take_append_of_le_length (by omega),pre,e1] at this
      rw [e2];exact this
    · exact h.kept hg (fun ad ha e => hc ⟨ad.block,blk_own.1 e.symm,ad,ha,rfl⟩)
  · exact h.gb hg
theorem getElem?_snoc {α : Type} {l : List α} {a x : α} {i : Nat} (h : (l ++ [a])[i]? = some x) : (i < l.length ∧ l[i]? = some x) ∨ (i = l.length ∧ x = a):=by
  rcases Nat.lt_or_ge i l.length with h1 | h1
  · rw [List.getElem?_append_left h1] at h;exact .inl ⟨h1,h⟩
  · rw [List.getElem?_append_right h1] at h
    have h2 : i - l.length < 1:=by simpa using (List.getElem?_eq_some_iff.1 h).1
    have h3 : i = l.length:=by omega
    subst h3
    simp at h
    exact .inr ⟨rfl,h.symm⟩
/-- One more is grown. -/
theorem Grow.step {w0 wi w3 w5 : World} {P h : Nat} {OA : Option Addr} {oc : Nat} {WA : Option Addr} {wc : Nat} {os ws ls ms : List Sl} {f : Nat → Int} {j k : Nat} {s l m : Sl} {A2 A4 : Option Addr} {c2 c4 : Nat}
    (G : Grow w0 P h OA oc WA wc os ws ls ms f) (hj : ls.length = j) (hs : os[j]? = some s) (I : In w0 wi P f j s k l m)
    (T3 : Tn wi w3 (fun b => blkOf OA b ∨ b = h)) (O3 : w3.ownsRow P 33 Es.sz (.slice A2 (os ++ (ls ++ [l])).length c2) (os ++ (ls ++ [l])).length (flat Es (os ++ (ls ++ [l])))) (A3 : ∀ b,blkOf A2 b → blkOf OA b ∨ wi.heap.size ≤ b)
    (T5 : Tn w3 w5 (fun b => blkOf WA b ∨ b = h)) (O5 : w5.ownsRow P 33 Es.sz (.slice A4 (ws ++ (ms ++ [m])).length c4) (ws ++ (ms ++ [m])).length (flat Es (ws ++ (ms ++ [m])))) (A5 : ∀ b,blkOf A4 b → blkOf WA b ∨ w3.heap.size ≤ b)
    (B5 : w5.heap[h]? = some (.cells #[.slice A2 (os ++ (ls ++ [l])).length c2,.slice A4 (ws ++ (ms ++ [m])).length c4,.int .i64 0] 29 (0,0))) :
    ∃ f',Grow w5 P h A2 c2 A4 c4 os ws (ls ++ [l]) (ms ++ [m]) f' ∧ Lt w0 f w5 f' (fun c => 0 ≤ c):=by
  have zi:=I.fr.size
  have z3:=T3.size
  have z5:=T5.size
  have f0:=G.f0
  have hh : h < w0.heap.size:=blk_lt' G.blk
  have loa : ∀ b,blkOf OA b → b < w0.heap.size:=fun b hb => (G.ho.lt b (blk_own.2 hb)).2
  have lwa : ∀ b,blkOf WA b → b < w0.heap.size:=fun b hb => (G.hw.lt b (blk_own.2 hb)).2
  have ll : ∀ b,blkOf l.A b → b < wi.heap.size:=fun b hb => (I.lo.lt hb).2
  have lmm : ∀ b,blkOf m.A b → b < wi.heap.size:=fun b hb => (I.mo.lt hb).2
  have la2 : ∀ b,blkOf A2 b → b < w3.heap.size:=fun b hb => (O3.lt b (blk_own.2 hb)).2
  have Ti5 : Tn wi w5 (fun b => b < w0.heap.size ∧ (f b = 0 ∨ f b = 1 ∨ f b = 2)):=by
    refine (T3.mono (fun b _ hb => ?_)).trans' (T5.mono (fun b _ hb => ?_))
    · rcases hb with hb | rfl
      · exact ⟨loa b hb,.inr (.inl (G.f1 b hb))⟩
      · exact ⟨hh,.inl f0⟩
    · rcases hb with hb | rfl
      · exact ⟨lwa b hb,.inr (.inr (G.f2 b hb))⟩
      · exact ⟨hh,.inl f0⟩
  have T05 : Tn w0 w5 (fun b => f b = 3 + 2 * (j : Int) ∨ f b = 0 ∨ f b = 1 ∨ f b = 2):=
    (I.fr.mono (fun b _ hb => .inl hb.2)).trans' (Ti5.mono (fun b _ hb => .inr hb.2))
  obtain ⟨f',hf'⟩ : ∃ f' : Nat → Int,∀ b,f' b = if b < w0.heap.size then f b else if b < wi.heap.size then (if m.A.map Addr.block = some b then 4 + 2 * (j : Int) else 3 + 2 * (j : Int)) else if b < w3.heap.size then 1 else 2:=⟨_,fun _ => rfl⟩
  have fold : ∀ b,b < w0.heap.size → f' b = f b:=fun b hb => by rw [hf',if_pos hb]
  have bma : ∀ b,blkOf m.A b ↔ m.A.map Addr.block = some b:=fun b => by
    unfold blkOf
    cases m.A with
    | none => simp
    | some ad => simp
  have fl' : ∀ b,blkOf l.A b → f' b = 3 + 2 * (j : Int):=fun b hb => by
    rcases I.bl b hb with ⟨h1,h2⟩ | h1
    · rw [fold b h2];exact h1
    · rw [hf',if_neg (by omega),if_pos (ll b hb),if_neg (fun e => I.lm b hb ((bma b).2 e))]
  have fm' : ∀ b,blkOf m.A b → f' b = 4 + 2 * (j : Int):=fun b hb => by
    have:=I.bm b hb
    rw [hf',if_neg (by omega),if_pos (lmm b hb),if_pos ((bma b).1 hb)]
  refine ⟨f',⟨B5,?_,O5,?_,by simp [G.lel],G.len,?_,?_,?_,G.base,?_,?_,?_,?_,?_,?_,?_⟩,⟨T05.mono (fun b _ hb => by omega),fold⟩⟩
  · exact own_tn O3 T5 (fun b hb e => by
      rcases A3 b (blk_own.1 hb) with h1 | h1
      · have:=G.f1 b h1
        rcases e with e | rfl
        · have:=G.f2 b e;omega
        · omega
      · rcases e with e | rfl
        · have:=lwa b e;omega
        · omega)
  · rw [← List.append_assoc,← List.append_assoc,List.map_append (l₁:=os ++ ls),List.map_append (l₁:=ws ++ ms),G.eq];simp [I.xs]
  · intro i q hq hi
    have hi' : j + 1 ≤ i:=by simpa [hj] using hi
    exact (G.so i q hq (by omega)).tn T05 (fun b hb e => by have:=(G.fo i q hq b hb).1;omega)
  · intro q hq
    rw [← List.append_assoc] at hq
    rcases List.mem_append.1 hq with hq | hq
    · by_cases hqs : ∃ b,blkOf q.A b ∧ f b = 3 + 2 * (j : Int)
      · -- of the label of the one that grows: it is s itself
        rcases List.mem_append.1 hq with hq1 | hq1
        · obtain ⟨i,hi⟩:=List.getElem?_of_mem hq1
          obtain ⟨b,hb,hfb⟩:=hqs
          have:=(G.fo i q hi b hb).1
          have e : i = j:=by omega
          subst e
          obtain rfl : q = s:=Option.some.inj (hi.symm.trans hs)
          exact I.rs.tn Ti5 (fun ad ha _ e => by have h1:=G.fo _ _ hs ad.block ⟨ad,ha,rfl⟩;omega)
        · obtain ⟨i,hi⟩:=List.getElem?_of_mem hq1
          obtain ⟨b,hb,hfb⟩:=hqs
          have:=(G.fl i q hi b hb).1
          have:=(List.getElem?_eq_some_iff.1 hi).1
          omega
      · refine (G.ro q hq).tn T05 (fun ad ha _ e => ?_)
        have hb : blkOf q.A ad.block:=⟨ad,ha,rfl⟩
        have hl : 3 ≤ f ad.block:=by
          rcases List.mem_append.1 hq with hq1 | hq1
          · obtain ⟨i,hi⟩:=List.getElem?_of_mem hq1
            have:=(G.fo i q hi _ hb).1;omega
          · obtain ⟨i,hi⟩:=List.getElem?_of_mem hq1
            have:=(G.fl i q hi _ hb).1;omega
        rcases e with e | e
        · exact hqs ⟨_,hb,e⟩
        · omega
    · obtain rfl : q = l:=by simpa using hq
      exact (I.lo.tn Ti5 (fun b hb e => by rcases I.bl b hb with h1 | h1 <;> omega)).rd
  · intro q hq
    rw [← List.append_assoc] at hq
    rcases List.mem_append.1 hq with hq | hq
    · refine (G.rw_ q hq).tn T05 (fun ad ha _ e => ?_)
      have hb : blkOf q.A ad.block:=⟨ad,ha,rfl⟩
      rcases List.mem_append.1 hq with hq1 | hq1
      · obtain ⟨i,hi⟩:=List.getElem?_of_mem hq1
        have:=(G.fw i q hi _ hb).1;omega
      · obtain ⟨i,hi⟩:=List.getElem?_of_mem hq1
        have:=(G.fm i q hi _ hb).1;omega
    · obtain rfl : q = m:=by simpa using hq
      exact (I.mo.tn Ti5 (fun b hb e => by have:=I.bm b hb;omega)).rd
  · rw [fold h hh];exact f0
  · intro b hb
    rcases A3 b hb with h1 | h1
    · rw [fold b (loa b h1)];exact G.f1 b h1
    · have:=la2 b hb
      rw [hf',if_neg (by omega),if_neg (by omega),if_pos this]
  · intro b hb
    rcases A5 b hb with h1 | h1
    · rw [fold b (lwa b h1)];exact G.f2 b h1
    · rw [hf',if_neg (by omega),if_neg (by omega),if_neg (by omega)]
  · intro i q hq b hb
    have:=G.fo i q hq b hb
    exact ⟨by rw [fold b this.2];exact this.1,by omega⟩
  · intro i q hq b hb
    have:=G.fw i q hq b hb
    exact ⟨by rw [fold b this.2];exact this.1,by omega⟩
  · intro i q hq b hb
    rcases getElem?_snoc hq with ⟨_,hq⟩ | ⟨rfl,rfl⟩
    · have:=G.fl i q hq b hb
      exact ⟨by rw [fold b this.2];exact this.1,by omega⟩
    · exact ⟨by rw [fl' b hb,hj],by have:=ll b hb;omega⟩
  · intro i q hq b hb
    rcases getElem?_snoc hq with ⟨_,hq⟩ | ⟨rfl,rfl⟩
    · have:=G.fm i q hq b hb
      exact ⟨by rw [fold b this.2];exact this.1,by omega⟩
    · exact ⟨by rw [fm' b hb,← G.lel,hj],by have:=lmm b hb;omega⟩
theorem In.mo2 {w0 wr wa w2 wb : World} {P : Nat} {f : Nat → Int} {j q : Nat} {s l m : Sl} (I : In w0 wr P f j s q l m) (g1 : wr.grownBy wa none) (hg2 : wa.grownBy w2 (Value.slice l.A l.n l.c).ownBlock) (g2 : w2.grownBy wb none) : SlOwn wb P m:=
  I.mo.tn (((Tn.gb0 g1 (fun b => blkOf l.A b)).trans' (Tn.of_gb hg2 (fun k hk => blk_own.1 hk))).trans' (Tn.gb0 g2 _)) (fun b hb e => I.lm b e hb)
/-- Both grow by one. -/
theorem In.step {w0 wr wa w2 wb w3 : World} {P : Nat} {f : Nat → Int} {j q : Nat} {s l m : Sl} {A2 A3 : Option Addr} {c2 c3 : Nat} {y : Int} (I : In w0 wr P f j s q l m) (hsf : ∀ b,blkOf s.A b → s.A = some ⟨b,0,none⟩) (hsb : ∀ b,blkOf s.A b → b < w0.heap.size)
    (g1 : wr.grownBy wa none) (ho2 : w2.ownsRow P 30 (Ei .u64).sz (.slice A2 (l.n + 1 : Nat) c2) (l.n + 1) (flat (Ei .u64) (l.xs ++ [y]))) (hg2 : wa.grownBy w2 (Value.slice l.A l.n l.c).ownBlock)
    (hat2 : (Value.slice A2 (l.n + 1 : Nat) c2).ownBlock = (Value.slice l.A l.n l.c).ownBlock ∨ (Value.slice A2 (l.n + 1 : Nat) c2).ownBlock = some wa.heap.size ∧ wa.grownBy w2 none) (g2 : w2.grownBy wb none)
    (ho3 : w3.ownsRow P 30 (Ei .u64).sz (.slice A3 (m.n + 1 : Nat) c3) (m.n + 1) (flat (Ei .u64) (m.xs ++ [y]))) (hg3 : wb.grownBy w3 (Value.slice m.A m.n m.c).ownBlock)
    (hat3 : (Value.slice A3 (m.n + 1 : Nat) c3).ownBlock = (Value.slice m.A m.n m.c).ownBlock ∨ (Value.slice A3 (m.n + 1 : Nat) c3).ownBlock = some wb.heap.size) :
    In w0 w3 P f j s (q + 1) ⟨A2,l.n + 1,c2,l.xs ++ [y]⟩ ⟨A3,m.n + 1,c3,m.xs ++ [y]⟩:=by
  have z0:=I.fr.size
  have z1:=g1.size
  have z2:=hg2.size
  have z3:=g2.size
  have z4:=hg3.size
  have T12 : Tn wr w2 (fun b => blkOf l.A b):=(Tn.gb0 g1 _).trans' (Tn.of_gb hg2 (fun k hk => blk_own.1 hk))
  have T23 : Tn w2 w3 (fun b => blkOf m.A b):=(Tn.gb0 g2 _).trans' (Tn.of_gb hg3 (fun k hk => blk_own.1 hk))
  have hml : ∀ b,blkOf m.A b → b < wr.heap.size:=fun b hb => (I.mo.lt hb).2
  have hll : ∀ b,blkOf l.A b → b < wr.heap.size:=fun b hb => (I.lo.lt hb).2
  have hA2 : ∀ b,blkOf A2 b → blkOf l.A b ∨ b = wa.heap.size:=fun b hb => by
    rcases hat2 with e | ⟨e,_⟩
    · rw [blk_own.2 hb] at e;exact .inl (blk_own.1 e.symm)
    · rw [blk_own.2 hb] at e;exact .inr (Option.some.inj e)
  have hA3 : ∀ b,blkOf A3 b → blkOf m.A b ∨ b = wb.heap.size:=fun b hb => by
    rcases hat3 with e | e
    · rw [blk_own.2 hb] at e;exact .inl (blk_own.1 e.symm)
    · rw [blk_own.2 hb] at e;exact .inr (Option.some.inj e)
  have hA2l : ∀ b,blkOf A2 b → b < w2.heap.size:=fun b hb => (ho2.lt b (blk_own.2 hb)).2
  have hO2 : SlOwn w2 P ⟨A2,l.n + 1,c2,l.xs ++ [y]⟩:=ho2
  have hln:=I.lo.len
  refine ⟨by rw [I.xs],by show l.n + 1 = _;rw [I.n];omega,?_,?_,ho3,?_,?_,?_,?_,?_⟩
  · show (l.xs ++ [y]).take s.n = s.xs
    rw [List.take_append_of_le_length (by rw [hln,I.n];omega)];exact I.pre
  · exact hO2.tn T23 (fun b hb e => by
      rcases hA2 b hb with h1 | h1
      · exact I.lm b h1 e
      · have:=hml b e;omega)
  · have h2 : Rd (Ei .u64) w2 s.A s.n s.xs:=rd_grown (I.rs.gb g1) hsf hln.symm (by
      rcases hat2 with e | ⟨_,e⟩
      · exact .inl ⟨fun b => ⟨fun hb => by rw [blk_own.2 hb] at e;exact blk_own.1 e.symm,fun hb => by rw [blk_own.2 hb] at e;exact blk_own.1 e⟩,hg2⟩
      · exact .inr e) hO2 rfl I.pre (by rw [I.n];omega)
    exact h2.tn T23 (fun ad ha _ e => by have h3:=hsb ad.block ⟨ad,ha,rfl⟩;have h4:=I.bm _ e;omega)
  · refine (I.fr.trans T12 (fun b hb e => ?_)).trans T23 (fun b hb e => ?_)
    · rcases I.bl b e with h1 | h1
      · exact ⟨h1.2,h1.1⟩
      · omega
    · have:=I.bm b e;omega
  · intro b hb
    rcases hA2 b hb with h1 | h1
    · exact I.bl b h1
    · exact .inr (by omega)
  · intro b hb
    rcases hA3 b hb with h1 | h1
    · exact I.bm b h1
    · omega
  · intro b hb hb2
    have:=hA2l b hb
    rcases hA3 b hb2 with h1 | h1
    · rcases hA2 b hb with h2 | h2
      · exact I.lm b h2 h1
      · have:=hml b h1;omega
    · omega
theorem own_cell0 {α : Type} {E : Enc α} {w : World} {base n c : Nat} {e : TypeId} {g : Nat} {xs : List α} (h : w.ownsRow base e E.sz (.slice (some ⟨g,0,none⟩) n c) n (flat E xs)) (h1 : E.sz = 1) (j : Nat) (x : α) (hx : xs[j]? = some x) (v : Value) (hv : (E.enc x)[0]? = some v) : w.cell? ⟨g,j,none⟩ = some v:=by
  have:=own_cell h j 0 x hx (by omega) v hv
  rwa [h1,Nat.mul_one,Nat.add_zero] at this
theorem Sl.some_of {w : World} {P : Nat} {s : Sl} (h : SlOwn w P s) (h0 : 0 < s.n) : ∃ g,s.A = some ⟨g,0,none⟩:=own_some h.len h h0
theorem Grow.put2 {w P h OA oc WA wc os ws ls ms f} (G : Grow w P h OA oc WA wc os ws ls ms f) (y : Value) : Look (w.setCell ⟨h,2,none⟩ y) h OA oc WA wc (os ++ ls) (ws ++ ms):=by
  have T : Tn w (w.setCell ⟨h,2,none⟩ y) (fun k => k = h):=Tn.set h 2 y rfl
  have f0:=G.f0
  refine ⟨⟨y,by have:=blk_set 2 y G.blk;simpa using this⟩,(own_rd rfl G.ho).tn T (fun ad ha _ e => ?_),(own_rd rfl G.hw).tn T (fun ad ha _ e => ?_),G.eq,fun s hs => (G.ro s hs).tn T (fun ad ha _ e => ?_),fun s hs => (G.rw_ s hs).tn T (fun ad ha _ e => ?_)⟩
  · have:=G.f1 ad.block ⟨ad,ha,rfl⟩;rw [e] at this;omega
  · have:=G.f2 ad.block ⟨ad,ha,rfl⟩;rw [e] at this;omega
  · rcases List.mem_append.1 hs with h1 | h1
    · obtain ⟨i,hi⟩:=List.getElem?_of_mem h1
      have:=(G.fo i s hi ad.block ⟨ad,ha,rfl⟩).1;rw [e] at this;omega
    · obtain ⟨i,hi⟩:=List.getElem?_of_mem h1
      have:=(G.fl i s hi ad.block ⟨ad,ha,rfl⟩).1;rw [e] at this;omega
  · rcases List.mem_append.1 hs with h1 | h1
    · obtain ⟨i,hi⟩:=List.getElem?_of_mem h1
      have:=(G.fw i s hi ad.block ⟨ad,ha,rfl⟩).1;rw [e] at this;omega
    · obtain ⟨i,hi⟩:=List.getElem?_of_mem h1
      have:=(G.fm i s hi ad.block ⟨ad,ha,rfl⟩).1;rw [e] at this;omega
/-- What writing over leaves. -/
def SpoilI (w : World) (h : Nat) (f : Nat → Int) (e : Ending) (w' : World) : Prop:=
  e = .returned (.bool true) ∧ Tn w w' (fun k => 0 ≤ f k)
theorem spoil_calls (w : World) (P h : Nat) (OA : Option Addr) (oc : Nat) (WA : Option Addr) (wc : Nat) (os ws : List Sl) (f : Nat → Int) (hk : Kept w P h OA oc WA wc os ws f) (hn : os.length ≤ 1000) (hs : ∀ s ∈ os,s.n ≤ 1000) :
    Calls Tryz.prog 12 #[.pointer (some ⟨h,0,none⟩)] w (SpoilI w h f):=by
  have HC:=Am (holds_calls w h OA oc WA wc os ws hk.look)
  have HHL:=Am (blk_lt' hk.blk)
  have HK:=Aside0.mk hk
  have HSN:=Aside0.mk hs
  obtain ⟨n,hno⟩ : ∃ n,n = os.length:=⟨_,rfl⟩
  have HNO:=Aside0.mk hno
  rw [← hno] at hn
  clear hk hs hno
  go_enter Tryz.func12,Tryz.ntmps12
  go_wp2_with fail
  refine (HC.out).mono ?_
  rintro e w1 ⟨rfl,hg⟩
  have HK1:=Am (HK.out.lt (Lt.gb (f:=f) (T:=fun _ => False) hg) (fun _ _ => id))
  have HT1:=Am (Tn.gb0 hg (fun k => 0 ≤ f k))
  have hc0:=HK1.out.look.c0
  rw [← HNO.out] at hc0
  have hcf:=cell_of (j:=2) HK1.out.blk rfl
  have HNO1:=Aside0.mk HNO.out.symm
  clear hg HK HC
  go_wp2_with fail
  go_loopg [6] n (fun k v4 wr => ∃ (i : Nat) (os ws : List Sl),v4 = .int .i64 i ∧ Aside0 (i + k = n) ∧ i ≤ n ∧ Aside0 (Kept wr P h OA oc WA wc os ws f) ∧ Aside0 (os.length = n) ∧ Aside0 (∀ s ∈ os,s.n ≤ 1000) ∧ Aside0 (Tn w wr (fun k => 0 ≤ f k)))
  case atStart => exact ⟨0,os,ws,rfl,⟨by omega⟩,by omega,HK1,HNO1,HSN,HT1⟩
  case round =>
    clear HK1 HNO1 HSN HT1 hc0 HNO
    obtain ⟨i,os,ws,rfl,HD,hi,HK,HNO,HSN,HT⟩:=hrel
    cases gk with
    | zero =>
      obtain rfl : i = n:=by have:=HD.out;omega
      have HG0:=Aside0.mk HK.out.grow
      have HC:=Am (holds_calls wr h OA oc WA wc os ws HK.out.look)
      obtain ⟨wo,rfl⟩ : ∃ wo,wo = wr:=⟨wr,rfl⟩
      go_wp2_with fail
      refine (HC.out).mono ?_
      rintro e w2 ⟨rfl,hg⟩
      have HG2:=Am (HG0.out.gb hg)
      have HL2 : Aside0 (Lt w f w2 f (fun c => 0 ≤ c)):=⟨⟨HT.out.trans' (Tn.gb0 hg _),fun _ _ => rfl⟩⟩
      clear hg HG0 HC HT HK HD
      go_wp2_with fail
      go_loopg [8] i (fun k v6 wr => ∃ (j : Nat) (OA : Option Addr) (oc : Nat) (WA : Option Addr) (wc : Nat) (ls ms : List Sl) (f' : Nat → Int),v6 = .int .i64 j ∧ Aside0 (j + k = i) ∧ j ≤ i ∧ Aside0 (ls.length = j) ∧ Aside0 (Grow wr P h OA oc WA wc os ws ls ms f') ∧ Aside0 (Lt w f wr f' (fun c => 0 ≤ c)))
      case atStart => exact ⟨0,OA,oc,WA,wc,[],[],f,rfl,⟨by omega⟩,by omega,⟨rfl⟩,HG2,HL2⟩
      case round =>
        clear HG2 HL2
        obtain ⟨j,OA,oc,WA,wc,ls,ms,f',rfl,HD,hj,HLS,HG,HL⟩:=hrel
        cases gk with
        | zero =>
          obtain rfl : j = i:=by have:=HD.out;omega
          have hc0:=HG.out.look.c0
          have hc2:=cell_of (j:=2) HG.out.blk rfl
          have hf2:=frozen_of (j:=2) HG.out.blk
          obtain ⟨nn,hnn⟩ : ∃ nn,nn = (os ++ ls).length:=⟨_,rfl⟩
          rw [← hnn] at hc0
          clear hnn
          go_upto_region 27 with (fail)
          have HLK:=Am (HG.out.put2 (.int .i64 nn))
          have HT2:=Am (HL.out.tn.trans' (Tn.set (F:=fun k => 0 ≤ f k) h 2 (.int .i64 nn) (by show 0 ≤ f h;rw [← HL.out.lab h HHL.out,HG.out.f0];exact Int.le_refl _)))
          clear hc0 hc2 hf2
          generalize wr.setCell ⟨h,2,none⟩ (.int .i64 nn) = w4 at HLK HT2 ⊢
          have HC:=Am (holds_calls w4 h OA oc WA wc (os ++ ls) (ws ++ ms) HLK.out)
          go_wp2_with fail
          refine (HC.out).mono ?_
          rintro e w3 ⟨rfl,hg⟩
          have HT3:=Am (HT2.out.trans' (Tn.gb0 hg _))
          clear hg
          go_wp2_with fail
          go_ret
          exact ⟨rfl,HT3.out⟩
        | succ d =>
          have hlt : j < i:=by have:=HD.out;omega
          have hlt1 : decide ((j : Int) < i) = true:=decide_eq_true (by omega)
          obtain ⟨s,hs⟩ : ∃ s,os[j]? = some s:=⟨_,List.getElem?_eq_getElem (by rw [HNO.out];exact hlt)⟩
          obtain ⟨t,ht⟩ : ∃ t,ws[j]? = some t:=⟨_,List.getElem?_eq_getElem (by rw [← HG.out.len,HNO.out];exact hlt)⟩
          have hs1 : (os ++ ls)[j]? = some s:=by rw [List.getElem?_append_left (by rw [HNO.out];exact hlt)];exact hs
          have ht1 : (ws ++ ms)[j]? = some t:=by rw [List.getElem?_append_left (by rw [← HG.out.len,HNO.out];exact hlt)];exact ht
          have hxs:=HG.out.look.xs_at hs1 ht1
          have hso:=HG.out.so j s hs (by rw [HLS.out];exact Nat.le_refl _)
          have hsn : s.n ≤ 1000:=HSN.out s (List.mem_of_getElem? hs)
          have htl:=(HG.out.rw_ t (List.mem_of_getElem? ht1)).1
          have hst : t.n = s.n:=by rw [← htl,← hxs];exact hso.len
          obtain ⟨no,hno⟩ : ∃ no,no = (os ++ ls).length:=⟨_,rfl⟩
          have hno2 : no = i + j:=by rw [hno,List.length_append,HNO.out,HLS.out]
          have hnw : (ws ++ ms).length = no:=by rw [hno];exact HG.out.look.len.symm
          have HS:=Aside0.mk hs
          have HTt:=Aside0.mk ht
          have HXS:=Aside0.mk hxs
          have HSO:=Aside0.mk hso
          have HTL:=Aside0.mk htl
          have HST:=Aside0.mk hst
          have HNO1:=Aside0.mk hno
          have HNW1:=Aside0.mk hnw
          obtain ⟨ob,rfl⟩:=own_some rfl HG.out.ho (by rw [← hno];omega)
          obtain ⟨wb,rfl⟩:=own_some rfl HG.out.hw (by rw [hnw];omega)
          have hc0:=HG.out.look.c0
          rw [← hno] at hc0
          have hoj : wr.cell? ⟨ob,j,none⟩ = some (.slice s.A s.n s.c):=own_cell0 HG.out.ho rfl j s hs1 _ rfl
          have hd1:=(HG.out.gb (World.grownBy_alloc wr (.cells #[] 30) none)).look.c1
          rw [← hno] at hd1
          have hwj : (wr.alloc (.cells #[] 30)).cell? ⟨wb,j,none⟩ = some (.slice t.A t.n t.c):=own_cell0 (HG.out.gb (World.grownBy_alloc wr (.cells #[] 30) none)).hw rfl j t ht1 _ rfl
          have hjn : (j : Int) < (no : Int):=by omega
          have hjn2 : j < no:=by omega
          have HM0:=Am (show (wr.alloc (.cells #[] 30)).ownsRow wr.heap.size 30 (Ei .u64).sz (.slice (some ⟨wr.heap.size,0,none⟩) 0 0) 0 (flat (Ei .u64) []) from World.ownsRow_lit wr #[] 0 (Nat.le_refl _) (by simp [maxLen]) (by simp))
          have HMR:=Am ((HG.out.rw_ t (List.mem_of_getElem? ht1)).gb (World.grownBy_alloc wr (.cells #[] 30) none))
          have HPW : Aside0 (P ≤ wr.heap.size):=⟨by have h1:=HG.out.base;have h2:=blk_lt' HG.out.blk;omega⟩
          have HSF:=Am (fun b => sl_form (b:=b) hso)
          have HSB:=Am (fun b hb => (HG.out.fo j s hs b hb).2)
          have HFO:=Am (fun b hb => (HG.out.fo j s hs b hb).1)
          have htn : t.n ≤ 1000:=by omega
          clear hs ht hs1 ht1 hxs hso htl hno hnw hst hno2
          go_wp2_with (at_builtin;refine app (Ei .u64) wr.heap.size rfl (.tmp 84) (.tmp 91) 33 30 (.int .u64 0) 8 rfl Tryz.underlying33 (by kernel_rfl) rfl (by decide) (.slice (some ⟨wr.heap.size,0,none⟩) 0 0) 0 [] t.xs t.A t.n t.c rfl rfl rfl HM0.out HMR.out (by simp) (by omega) ?_;intro v1 w1 ho hg _;rw [List.nil_append,Nat.zero_add] at ho;obtain ⟨A1,c1,rfl,-,-,-⟩:=own_open HTL.out ho;have HO1:=Aside0.mk ho;have HG1:=Am (gb_row (World.grownBy_alloc wr (.cells #[] 30) none) hg (fun k hk => by simp [Value.ownBlock] at hk;omega));clear ho hg)
          have HI0 : Aside0 (In wr w1 P f' j s 0 s ⟨A1,t.n,c1,t.xs⟩):=⟨by
            have hm : ∀ b,blkOf A1 b → wr.heap.size ≤ b:=fun b hb => (HO1.out.lt b (blk_own.2 hb)).1
            exact ⟨HXS.out,rfl,by rw [List.take_of_length_le (by rw [HSO.out.len];exact Nat.le_refl _)],HSO.out.tn (Tn.gb0 HG1.out (fun _ => False)) (fun _ _ => id),own_mono HO1.out HPW.out,(HSO.out.rd).gb HG1.out,Tn.gb0 HG1.out _,fun b hb => .inl ⟨HFO.out b hb,HSB.out b hb⟩,hm,fun b hb hb2 => by have:=hm b hb2;have:=HSB.out b hb;omega⟩⟩
          obtain ⟨m0,hm0⟩ : ∃ m : Sl,m = ⟨A1,t.n,c1,t.xs⟩:=⟨_,rfl⟩
          rw [← hm0] at HI0
          have hv8 : Value.slice A1 t.n c1 = .slice m0.A m0.n m0.c:=by rw [hm0]
          rw [hv8]
          clear hv8 hm0 HM0 HMR hd1 hwj HO1 hc0 hoj
          obtain ⟨w0,hw0⟩ : ∃ w0,w0 = wr:=⟨wr,rfl⟩
          rw [← hw0] at HI0 HG HPW HL HSB HSO HG1
          clear hw0
          go_loopg [9,10,11] 20 (fun k v7 v8 v9 wr => ∃ (q : Nat) (l m : Sl),v7 = .slice l.A l.n l.c ∧ v8 = .slice m.A m.n m.c ∧ v9 = .int .i64 q ∧ Aside0 (q + k = 20) ∧ q ≤ 20 ∧ Aside0 (In w0 wr P f' j s q l m))
          case atStart => exact ⟨0,s,m0,rfl,rfl,rfl,⟨rfl⟩,by omega,HI0⟩
          case round =>
            clear HI0
            obtain ⟨q,l,m,rfl,rfl,rfl,HDq,hq,HI⟩:=hrel
            have hln : l.n ≤ 1020:=by have:=HI.out.n;omega
            have hmn : m.n = l.n:=by rw [← HI.out.mo.len,← HI.out.lo.len,HI.out.xs]
            cases gk with
            | zero =>
              obtain rfl : q = 20:=by have:=HDq.out;omega
              have hf0:=HG.out.f0
              have hf1:=HG.out.f1 ob ⟨_,rfl,rfl⟩
              have hf2':=HG.out.f2 wb ⟨_,rfl,rfl⟩
              have hhl : h < w0.heap.size:=blk_lt' HG.out.blk
              have hol : ob < w0.heap.size:=(HG.out.ho.lt ob rfl).2
              have hwl : wb < w0.heap.size:=(HG.out.hw.lt wb rfl).2
              have hzz:=HI.out.fr.size
              have HHO : Aside0 (¬ h = ob):=⟨fun e => by rw [e] at hf0;omega⟩
              have HHW : Aside0 (¬ h = wb):=⟨fun e => by rw [e] at hf0;omega⟩
              have HOW : Aside0 (¬ wb = ob):=⟨fun e => by rw [e] at hf2';omega⟩
              have HB:=Am (show wr.heap[h]? = some (.cells #[.slice (some ⟨ob,0,none⟩) no oc,.slice (some ⟨wb,0,none⟩) no wc,.int .i64 0] 29 (0,0)) by
                have:=blk_tn HG.out.blk HI.out.fr (fun e => by have:=e.2;omega)
                rwa [HNW1.out,← HNO1.out] at this)
              have HOA0:=Am (show wr.ownsRow P 33 Es.sz (.slice (some ⟨ob,0,none⟩) no oc) no (flat Es (os ++ ls)) by
                have:=own_tn HG.out.ho HI.out.fr (fun k hk e => by simp [Value.ownBlock] at hk;have:=e.2;rw [← hk] at this;omega)
                rwa [← HNO1.out] at this)
              have HWA0:=Am (show wr.ownsRow P 33 Es.sz (.slice (some ⟨wb,0,none⟩) no wc) no (flat Es (ws ++ ms)) by
                have:=own_tn HG.out.hw HI.out.fr (fun k hk e => by simp [Value.ownBlock] at hk;have:=e.2;rw [← hk] at this;omega)
                rwa [HNW1.out] at this)
              have HOA:=Am (own_kept HOA0.out (World.grownBy_alloc wr (.cells #[.slice l.A l.n l.c] 33) none) (by simp))
              have HRA:=Am (show Rd Es (wr.alloc (.cells #[.slice l.A l.n l.c] 33)) (some ⟨wr.heap.size,0,none⟩) 1 [l] from rd_lit Es wr 33 [l] (by simp))
              have HSA : Aside0 (P ≤ (wr.alloc (.cells #[.slice l.A l.n l.c] 33)).heap.size):=⟨by have h1:=HPW.out;simp;omega⟩
              have HL2:=Am (show ((os ++ ls) ++ [l]).length = no + 1 by rw [List.length_append,← HNO1.out];rfl)
              have HL4:=Am (show ((ws ++ ms) ++ [m]).length = no + 1 by rw [List.length_append,HNW1.out];rfl)
              have hnn : no ≤ 2000:=by have h1:=HNO1.out;have h2:=HNO.out;have h3:=HLS.out;rw [List.length_append] at h1;omega
              have hc0:=cell_of (j:=0) (v:=.slice (some ⟨ob,0,none⟩) no oc) HB.out rfl
              clear hmn hf0 hf1 hf2' hhl hol hwl hzz
              go_upto_region 25 with (at_builtin;refine app_at Es P rfl (.tmp 113) (.tmp 115) 27 33 (.slice none 0 0) 24 rfl Tryz.underlying27 (by kernel_rfl) rfl (by decide) (.slice (some ⟨ob,0,none⟩) no oc) no (os ++ ls) [l] ⟨wr.heap.size,0,none⟩ 1 1 rfl rfl HOA.out HRA.out HSA.out (by omega) ?_;intro v2 w2 ho hg hat;obtain ⟨A2,c2,rfl,-,-,-⟩:=own_open HL2.out ho;have HO2:=Aside0.mk ho;have HG2:=Aside0.mk hg;have HA2:=Aside0.mk hat;have HB2:=Am (blk_tn (blk_kept HB.out (World.grownBy_alloc wr (.cells #[.slice l.A l.n l.c] 33) none) (by simp)) (Tn.of_gb hg (F:=fun k => k = ob) (fun k hk => by simp [Value.ownBlock] at hk;exact hk.symm)) HHO.out);have hk2:=cell_of (j:=0) (v:=.slice (some ⟨ob,0,none⟩) no oc) HB2.out rfl;have hf2:=frozen_of (j:=0) HB2.out;clear ho hg hat)
              have HB3:=Am (show (w2.setCell ⟨h,0,none⟩ (.slice A2 (no + 1) c2)).heap[h]? = some (.cells #[.slice A2 (no + 1) c2,.slice (some ⟨wb,0,none⟩) no wc,.int .i64 0] 29 (0,0)) by
                have:=blk_set 0 (.slice A2 (no + 1) c2) HB2.out
                simpa using this)
              have HT3:=Am (show Tn wr (w2.setCell ⟨h,0,none⟩ (.slice A2 (no + 1) c2)) (fun b => blkOf (some ⟨ob,0,none⟩) b ∨ b = h) from ((Tn.alloc wr _ _).trans' (Tn.of_gb HG2.out (fun k hk => .inl (blk_own.1 hk)))).trans' (Tn.set h 0 _ (.inr rfl)))
              have ha2 : ∀ b,blkOf A2 b → blkOf (some ⟨ob,0,none⟩) b ∨ wr.heap.size ≤ b:=fun b hb => by
                rcases HA2.out with e | e
                · rw [blk_own.2 hb] at e;exact .inl (blk_own.1 e.symm)
                · rw [blk_own.2 hb] at e
                  have:=Option.some.inj e
                  simp at this
                  exact .inr (by omega)
              have HA3:=Aside0.mk ha2
              have HO3:=Am (show (w2.setCell ⟨h,0,none⟩ (.slice A2 (no + 1) c2)).ownsRow P 33 Es.sz (.slice A2 (no + 1 : Nat) c2) (no + 1) (flat Es ((os ++ ls) ++ [l])) from
                own_tn HO2.out (Tn.set h 0 _ (F:=fun k => k = h) rfl) (fun k hk he => by
                  have h5:=blk_lt' HB.out
                  rcases ha2 k (blk_own.1 hk) with h1 | h1
                  · obtain ⟨ad,h2,h3⟩:=h1
                    cases h2
                    exact HHO.out (he.symm.trans h3.symm)
                  · omega))
              generalize w2.setCell ⟨h,0,none⟩ (.slice A2 (no + 1) c2) = w3 at HB3 HT3 HO3 ⊢
              have HWA:=Am (show (w3.alloc (.cells #[.slice m.A m.n m.c] 33)).ownsRow P 33 Es.sz (.slice (some ⟨wb,0,none⟩) no wc) no (flat Es (ws ++ ms)) from
                own_kept (own_tn HWA0.out HT3.out (fun k hk he => by
                  simp [Value.ownBlock] at hk
                  rcases he with ⟨ad,h2,h3⟩ | h1
                  · cases h2;exact HOW.out (hk.trans h3.symm)
                  · exact HHW.out (h1.symm.trans hk.symm))) (World.grownBy_alloc w3 _ none) (by simp))
              have HRB:=Am (show Rd Es (w3.alloc (.cells #[.slice m.A m.n m.c] 33)) (some ⟨w3.heap.size,0,none⟩) 1 [m] from rd_lit Es w3 33 [m] (by simp))
              have HSB2 : Aside0 (P ≤ (w3.alloc (.cells #[.slice m.A m.n m.c] 33)).heap.size):=⟨by have h1:=HPW.out;have h2:=HT3.out.size;have h3:=HI.out.fr.size;simp;omega⟩
              have hc3:=cell_of (j:=1) (v:=.slice (some ⟨wb,0,none⟩) no wc) HB3.out rfl
              clear ha2 hk2 hf2 hc0
              go_wp2_with (at_builtin;refine app_at Es P rfl (.tmp 123) (.tmp 125) 27 33 (.slice none 0 0) 24 rfl Tryz.underlying27 (by kernel_rfl) rfl (by decide) (.slice (some ⟨wb,0,none⟩) no wc) no (ws ++ ms) [m] ⟨w3.heap.size,0,none⟩ 1 1 rfl rfl HWA.out HRB.out HSB2.out (by omega) ?_;intro v4 w4 ho hg hat;obtain ⟨A4,c4,rfl,-,-,-⟩:=own_open HL4.out ho;have HO4:=Aside0.mk ho;have HG4:=Aside0.mk hg;have HA4:=Aside0.mk hat;have HB4:=Am (blk_tn (blk_kept HB3.out (World.grownBy_alloc w3 (.cells #[.slice m.A m.n m.c] 33) none) (by simp)) (Tn.of_gb hg (F:=fun k => k = wb) (fun k hk => by simp [Value.ownBlock] at hk;exact hk.symm)) HHW.out);have hk4:=cell_of (j:=1) (v:=.slice (some ⟨wb,0,none⟩) no wc) HB4.out rfl;have hf4:=frozen_of (j:=1) HB4.out;clear ho hg hat)
              go_roundg d
              case measure => omega
              case rel =>
                have e1 : (os ++ (ls ++ [l])).length = no + 1:=by rw [← List.append_assoc];exact HL2.out
                have e2 : (ws ++ (ms ++ [m])).length = no + 1:=by rw [← List.append_assoc];exact HL4.out
                have ha4 : ∀ b,blkOf A4 b → blkOf (some ⟨wb,0,none⟩) b ∨ w3.heap.size ≤ b:=fun b hb => by
                  rcases HA4.out with e | e
                  · rw [blk_own.2 hb] at e;exact .inl (blk_own.1 e.symm)
                  · rw [blk_own.2 hb] at e
                    have:=Option.some.inj e
                    simp at this
                    exact .inr (by omega)
                have hT5 : Tn w3 (w4.setCell ⟨h,1,none⟩ (.slice A4 (no + 1 : Nat) c4)) (fun b => blkOf (some ⟨wb,0,none⟩) b ∨ b = h):=
                  ((Tn.alloc w3 _ _).trans' (Tn.of_gb HG4.out (fun k hk => .inl (blk_own.1 hk)))).trans' (Tn.set h 1 _ (.inr rfl))
                obtain ⟨f2,hg2,hl2⟩:=HG.out.step HLS.out HS.out HI.out HT3.out (A2:=A2) (c2:=c2) (by rw [e1,← List.append_assoc];exact HO3.out) HA3.out hT5 (A4:=A4) (c4:=c4) (by
                  rw [e2,← List.append_assoc]
                  exact own_tn HO4.out (Tn.set h 1 _ (F:=fun k => k = h) rfl) (fun k hk he => by
                    have h5:=blk_lt' HB3.out
                    rcases ha4 k (blk_own.1 hk) with h1 | h1
                    · obtain ⟨ad,h2,h3⟩:=h1
                      cases h2
                      exact HHW.out (he.symm.trans h3.symm)
                    · omega)) ha4 (by
                  rw [e1,e2]
                  have:=blk_set 1 (.slice A4 (no + 1 : Nat) c4) HB4.out
                  simpa using this)
                exact ⟨j + 1,A2,c2,A4,c4,ls ++ [l],ms ++ [m],f2,by go_num,⟨by have:=HD.out;omega⟩,by omega,⟨by rw [List.length_append,HLS.out];rfl⟩,⟨hg2⟩,⟨HL.out.trans hl2⟩⟩
            | succ e =>
              have hq20 : q < 20:=by have:=HDq.out;omega
              have hq1 : decide ((q : Int) < 20) = true:=decide_eq_true (by omega)
              have HMN:=Aside0.mk hmn
              have hmn8 : m.n ≤ 1020:=by omega
              clear hmn
              have HGA:=Am (World.grownBy_alloc wr (.cells #[.int .u64 (1000 + (j : Int))] 30) none)
              have HLO:=Am (show (wr.alloc (.cells #[.int .u64 (1000 + (j : Int))] 30)).ownsRow P 30 (Ei .u64).sz (.slice l.A l.n l.c) l.n (flat (Ei .u64) l.xs) from HI.out.lo.tn (Tn.gb0 HGA.out (fun _ => False)) (fun _ _ => id))
              have HLR:=Am (show Rd (Ei .u64) (wr.alloc (.cells #[.int .u64 (1000 + (j : Int))] 30)) (some ⟨wr.heap.size,0,none⟩) 1 [(1000 + (j : Int))] from rd_lit (Ei .u64) wr 30 [(1000 + (j : Int))] (by simp))
              have HLZ : Aside0 (P ≤ (wr.alloc (.cells #[.int .u64 (1000 + (j : Int))] 30)).heap.size):=⟨by have h1:=HPW.out;have h2:=HI.out.fr.size;simp;omega⟩
              have HLL:=Am (show (l.xs ++ [(1000 + (j : Int))]).length = l.n + 1 by rw [List.length_append,HI.out.lo.len];rfl)
              have HML:=Am (show (m.xs ++ [(1000 + (j : Int))]).length = m.n + 1 by rw [List.length_append,HI.out.mo.len];rfl)
              go_wp2_with (first | (at_builtin;refine app_at2 (Ei .u64) P rfl (.tmp 97) (.tmp 101) 33 30 (.int .u64 0) 8 rfl Tryz.underlying33 (by kernel_rfl) rfl (by decide) (.slice l.A l.n l.c) l.n l.xs [(1000 + (j : Int))] ⟨wr.heap.size,0,none⟩ 1 1 rfl rfl HLO.out HLR.out HLZ.out (by omega) ?_;intro v2 w2 ho hg hat;obtain ⟨A2,c2,rfl,-,-,-⟩:=own_open HLL.out ho;have HO2:=Aside0.mk ho;have HG2:=Aside0.mk hg;have HA2:=Aside0.mk hat;have HMO:=Am (HI.out.mo2 HGA.out hg (World.grownBy_alloc w2 (.cells #[.int .u64 (1000 + (j : Int))] 30) none));have HMR:=Am (show Rd (Ei .u64) (w2.alloc (.cells #[.int .u64 (1000 + (j : Int))] 30)) (some ⟨w2.heap.size,0,none⟩) 1 [(1000 + (j : Int))] from rd_lit (Ei .u64) w2 30 [(1000 + (j : Int))] (by simp));have HMZ : Aside0 (P ≤ (w2.alloc (.cells #[.int .u64 (1000 + (j : Int))] 30)).heap.size):=⟨by have h1:=HLZ.out;have h2:=hg.size;simp at h1 h2 ⊢;omega⟩;clear ho hg hat) | (at_builtin;refine app_at (Ei .u64) P rfl (.tmp 103) (.tmp 107) 33 30 (.int .u64 0) 8 rfl Tryz.underlying33 (by kernel_rfl) rfl (by decide) (.slice m.A m.n m.c) m.n m.xs [(1000 + (j : Int))] ⟨w2.heap.size,0,none⟩ 1 1 rfl rfl HMO.out HMR.out HMZ.out (by omega) ?_;intro v3 w3 ho hg hat;obtain ⟨A3,c3,rfl,-,-,-⟩:=own_open HML.out ho;have HO3:=Aside0.mk ho;have HG3:=Aside0.mk hg;have HA3:=Aside0.mk hat;clear ho hg hat))
              go_roundg e
              case measure => omega
              case rel => exact ⟨q + 1,⟨A2,l.n + 1,c2,l.xs ++ [(1000 + (j : Int))]⟩,⟨A3,m.n + 1,c3,m.xs ++ [(1000 + (j : Int))]⟩,rfl,rfl,by go_num,⟨by have:=HDq.out;omega⟩,by omega,⟨HI.out.step HSF.out HSB.out HGA.out HO2.out HG2.out HA2.out (World.grownBy_alloc w2 (.cells #[.int .u64 (1000 + (j : Int))] 30) none) HO3.out HG3.out HA3.out⟩⟩
    | succ d =>
      have hlt : i < n:=by have:=HD.out;omega
      have hlt1 : decide ((i : Int) < n) = true:=decide_eq_true (by omega)
      obtain ⟨s,hs⟩ : ∃ s,os[i]? = some s:=⟨_,List.getElem?_eq_getElem (by rw [HNO.out];exact hlt)⟩
      obtain ⟨m,hm⟩ : ∃ m,m = s.n:=⟨_,rfl⟩
      have hm1 : m ≤ 1000:=by rw [hm];exact HSN.out s (List.mem_of_getElem? hs)
      have HSM : Aside0 (∃ s,os[i]? = some s ∧ s.n = m):=⟨s,hs,hm.symm⟩
      clear hs hm s
      obtain ⟨wo,rfl⟩ : ∃ wo,wo = wr:=⟨wr,rfl⟩
      go_wp2_with fail
      go_loopg [7] m (fun k v5 wr => ∃ (j : Nat) (os ws : List Sl),v5 = .int .i64 j ∧ Aside0 (j + k = m) ∧ j ≤ m ∧ Aside0 (Kept wr P h OA oc WA wc os ws f) ∧ Aside0 (os.length = n) ∧ Aside0 (∀ s ∈ os,s.n ≤ 1000) ∧ Aside0 (∃ s,os[i]? = some s ∧ s.n = m) ∧ Aside0 (Tn w wr (fun k => 0 ≤ f k)))
      case atStart => exact ⟨0,os,ws,rfl,⟨by omega⟩,by omega,HK,HNO,HSN,HSM,HT⟩
      case round =>
        clear HK HNO HSN HSM HT
        obtain ⟨j,os,ws,rfl,HDj,hj,HK,HNO,HSN,HSM,HT⟩:=hrel
        obtain ⟨s,hs,hsm⟩:=HSM.out
        obtain ⟨t,ht⟩ : ∃ t,ws[i]? = some t:=⟨_,List.getElem?_eq_getElem (by rw [← HK.out.len,HNO.out];exact hlt)⟩
        have HS:=Aside0.mk hs
        have HTt:=Aside0.mk ht
        have HSMn:=Aside0.mk hsm
        obtain ⟨ob,rfl⟩:=own_some rfl HK.out.ho (by rw [HNO.out];omega)
        obtain ⟨wb,rfl⟩:=own_some rfl HK.out.hw (by rw [← HK.out.len,HNO.out];omega)
        have hc0:=HK.out.look.c0
        have hc1:=HK.out.look.c1
        rw [HNO.out] at hc0 hc1
        have hoi : wr.cell? ⟨ob,i,none⟩ = some (.slice s.A m s.c):=by rw [← hsm];exact own_cell0 HK.out.ho rfl i s hs _ rfl
        have hii : (i : Int) < (n : Int):=by omega
        clear hs ht hsm HSM
        cases gk with
        | zero =>
          obtain rfl : j = m:=by have:=HDj.out;omega
          go_wp2
          go_roundg d
          case measure => omega
          case rel => exact ⟨i + 1,os,ws,by go_num,⟨by have:=HD.out;omega⟩,by omega,HK,HNO,HSN,HT⟩
        | succ e =>
          have hjm : j < m:=by have:=HDj.out;omega
          have hjm1 : decide ((j : Int) < m) = true:=decide_eq_true (by omega)
          have hjj : (j : Int) < (m : Int):=by omega
          obtain ⟨sb,hA⟩:=Sl.some_of (HK.out.so s (List.mem_of_getElem? HS.out)) (by rw [HSMn.out];omega)
          have hsl : s.n = t.n:=by
            have h1:=(HK.out.so s (List.mem_of_getElem? HS.out)).len
            have h2:=(HK.out.sw t (List.mem_of_getElem? HTt.out)).len
            rw [HK.out.look.xs_at HS.out HTt.out] at h1
            omega
          obtain ⟨tb,hB⟩:=Sl.some_of (HK.out.sw t (List.mem_of_getElem? HTt.out)) (by rw [← hsl,HSMn.out];omega)
          have HSA:=Aside0.mk hA
          have HTB:=Aside0.mk hB
          have HTN:=Am (hsl.symm.trans HSMn.out)
          rw [hA] at hoi
          have hSo:=HK.out.so s (List.mem_of_getElem? HS.out)
          have hTo:=HK.out.sw t (List.mem_of_getElem? HTt.out)
          obtain ⟨v0,hv0⟩ : ∃ v,wr.cell? ⟨sb,j,none⟩ = some v:=by
            unfold SlOwn at hSo
            rw [hA] at hSo
            exact ⟨_,own_cell0 hSo rfl j _ (List.getElem?_eq_getElem (by rw [(HK.out.so s (List.mem_of_getElem? HS.out)).len,HSMn.out];exact hjm)) _ rfl⟩
          have hf0 : wr.frozen? ⟨sb,j,none⟩ = false:=by
            unfold SlOwn at hSo
            rw [hA] at hSo
            exact own_frozen hSo j
          clear hA hB hsl hSo hTo
          go_upto_region 11 with (fail)
          have HP:=Am (HK.out.put HS.out HTt.out HSA.out HTB.out (k:=j) (by rw [HSMn.out];exact hjm) ((i : Int) + 7))
          have hT2 : Tn wr (wr.setCell ⟨sb,j,none⟩ (.int .u64 ((i : Int) + 7))) (fun k => k = sb):=Tn.set sb j _ rfl
          have ls:=HK.out.fo i s HS.out sb ⟨_,HSA.out,rfl⟩
          have lh:=HK.out.f0
          have lw:=HK.out.f2 wb ⟨_,rfl,rfl⟩
          have lt:=HK.out.fw i t HTt.out tb ⟨_,HTB.out,rfl⟩
          have hTo:=HK.out.sw t (List.mem_of_getElem? HTt.out)
          have hto2 : (wr.setCell ⟨sb,j,none⟩ (.int .u64 ((i : Int) + 7))).ownsRow P 30 (Ei .u64).sz (.slice (some ⟨tb,0,none⟩) t.n t.c) t.n (flat (Ei .u64) t.xs):=by
            have:=hTo.tn hT2 (fun k hk e => by obtain ⟨ad,h1,h2⟩:=hk;rw [HTB.out] at h1;cases h1;rw [← h2] at e;simp at e;rw [e] at lt;omega)
            unfold SlOwn at this
            rwa [HTB.out] at this
          have hd1 : (wr.setCell ⟨sb,j,none⟩ (.int .u64 ((i : Int) + 7))).cell? ⟨h,1,none⟩ = some (.slice (some ⟨wb,0,none⟩) n wc):=cell_tn hc1 hT2 (fun e => by simp at e;rw [e] at lh;omega)
          have hdw : (wr.setCell ⟨sb,j,none⟩ (.int .u64 ((i : Int) + 7))).cell? ⟨wb,i,none⟩ = some (.slice (some ⟨tb,0,none⟩) m t.c):=by
            refine cell_tn ?_ hT2 (fun e => by simp at e;rw [e] at lw;omega)
            rw [← HTN.out,← HTB.out]
            exact own_cell0 HK.out.hw rfl i t HTt.out _ rfl
          have hdt : ∃ v,(wr.setCell ⟨sb,j,none⟩ (.int .u64 ((i : Int) + 7))).cell? ⟨tb,j,none⟩ = some v:=⟨_,own_cell0 hto2 rfl j _ (List.getElem?_eq_getElem (by rw [hTo.len,HTN.out];exact hjm)) _ rfl⟩
          have hdf : (wr.setCell ⟨sb,j,none⟩ (.int .u64 ((i : Int) + 7))).frozen? ⟨tb,j,none⟩ = false:=own_frozen hto2 j
          have HT2:=Am (HT.out.trans' ((hT2.mono (G:=fun k => 0 ≤ f k) (fun k _ e => by rw [e,ls];omega))))
          have HLT:=Am (show 0 ≤ f tb by rw [lt];omega)
          clear hto2 hTo hT2 ls lh lw lt hc0 hc1 hoi hv0 hf0
          generalize wr.setCell ⟨sb,j,none⟩ (.int .u64 ((i : Int) + 7)) = w2 at HP hd1 hdw hdt hdf HT2 ⊢
          obtain ⟨v1,hdt⟩:=hdt
          go_wp2_with fail
          go_roundg e
          case measure => omega
          case rel =>
            refine ⟨j + 1,os.set i (setY s j ((i : Int) + 7)),ws.set i (setY t j ((i : Int) + 7)),by go_num,⟨by have:=HDj.out;omega⟩,by omega,HP,⟨by rw [List.length_set];exact HNO.out⟩,⟨?_⟩,⟨?_⟩,⟨HT2.out.trans' (Tn.set tb j _ HLT.out)⟩⟩
            · intro q hq
              obtain ⟨x,hx⟩:=List.getElem?_of_mem hq
              rcases set_at hx with ⟨rfl,rfl⟩ | ⟨_,hx⟩
              · exact HSN.out s (List.mem_of_getElem? HS.out)
              · exact HSN.out q (List.mem_of_getElem? hx)
            · refine ⟨setY s j ((i : Int) + 7),?_,HSMn.out⟩
              rw [List.getElem?_set,if_pos rfl,if_pos (by rw [HNO.out];exact hlt)]
end Go.Proofs.YtbhijfbjdbjpbaaGreatDoor.T
namespace Go.Proofs.YtbhijfbjdbjpbaaGreatDoor.T
open Go.RowKit Go.Proofs.YtbhijfbjdbjpbaaGreatDoorW.PrintWords Go.Proofs.YtbhijfbjdbjpbaaGreatDoorW.PrintLast Go.Proofs.YtbhijfbjdbjpbaaGreatDoor.H Go.Proofs.YtbhijfbjdbjpbaaGreatDoor.Q Go.ChangeShapes Go.WideShapes Go.Deep
set_option linter.unusedVariables false
set_option linter.unusedSimpArgs false
def Accs (W : World) (A : Option Addr) (n : Nat) (ls : List Acc) : Prop:=Rd Ec W A n ls ∧ AccOk ls ∧ AccU ls
section
variable {H : Type} {enc : TypeId × Value → H} {P : Program} {w : World} {base : Nat} {spare : Nat → Bool} {held : Bool}
theorem open_fieldsA {t e : TypeId} {fs : Array Field} {fuel : Nat} {cs : List Value} {x : DataW H × List MemPlace} (ht : P.underlying t = some (.slice e)) (he : P.underlying e = some (.struct fs))
    (hone : oneCellFields P fs = true) (hC : P.cellsOf e = fs.size) (h : DataW.trod enc P w base spare held fuel t cs = some x) :
    (cs = [.slice none 0 0] ∧ x = (.nil,[])) ∨
    ∃ (a : Addr) (len cap m : Nat) (D : Nat → DataW H) (Pl : Nat → List MemPlace),cs = [.slice (some a) len cap] ∧ len ≤ cap ∧ cap ≤ maxLen ∧ len ≤ m ∧
      x.1 = .slice ((List.range len).map D) ((List.range (m - len)).map fun j => D (len + j)) ∧
      ∀ i,i < m → ∃ n : Nat,∀ (j : Nat) (f : Field),fs[j]? = some f → ∃ (v : Value) (y : DataW H × List MemPlace),w.cell? (a.add (i * fs.size + j)) = some v ∧ DataW.trod enc P w base spare held n f.type [v] = some y:=by
  rcases open_slice ht h with h0 | ⟨a,len,cap,m,n,D,Pl,hcs,hb,hl,hm,hmm,hx,hi⟩
  · exact .inl h0
  · have hml : len ≤ m:=by rw [hmm];split <;> omega
    refine .inr ⟨a,len,cap,m,D,Pl,hcs,hl,hm,hml,by rw [hx],fun i him => ?_⟩
    obtain ⟨cs',hc,ht'⟩:=hi i him
    rw [hC] at hc
    obtain ⟨ys,n',hn',hy,hlen,hyl,hf⟩:=DataW.trod_struct he ht'
    obtain ⟨_,hcl,hat⟩:=World.cells?_some hc
    refine ⟨n',fun j f hj => ?_⟩
    obtain ⟨ho,hk⟩:=hone_of hone j f hj
    have hjl : j < fs.size:=(Array.getElem?_eq_some_iff.1 hj).1
    have hcell:=hat j hjl
    have hv : cs'[j]? = some (cs'[j]'(by omega)):=List.getElem?_eq_getElem (by omega)
    have h1:=hf j f hj
    rw [ho,hk] at h1
    have hone' : (cs'.drop j).take 1 = [cs'[j]'(by omega)]:=by
      rw [List.drop_eq_getElem_cons (by omega)]
      rfl
    rw [hone'] at h1
    have hys : ys[j]? = some (ys[j]'(by omega)):=List.getElem?_eq_getElem (by omega)
    refine ⟨_,_,?_,h1.trans hys⟩
    rw [← Go.Deep.add_add,hcell,hv]
end
theorem open_accs {H : Type} {enc : TypeId × Value → H} {W : World} {base : Nat} {spare : Nat → Bool} {held : Bool} {a : Option Addr} {len cap : Nat} {d : DataW H} {ps : List MemPlace} {ts : List TypeId} {ds : List (DataW H)} {j : Nat}
    (hsz : (DataW.weightsEach Tryz.prog ts ds).all (· ≤ reachBytes) = true) (ht : ts[j]? = some 24) (hd : ds[j]? = some d) (h : DataW.Trod enc Tryz.prog W base spare held 24 (.slice a len cap) d ps) :
    ∃ ls,Accs W a len ls ∧ len ≤ cap ∧ len * 48 ≤ 140737488351232:=by
  obtain ⟨fuel,hf⟩:=h
  have hf1 : DataW.trod enc Tryz.prog W base spare held fuel 24 [.slice a len cap] = some (d,ps):=by simpa [Value.cells] using hf
  rcases open_fieldsA Tryz.underlying24 Tryz.underlying32 (by kernel_rfl) (by kernel_rfl) hf1 with ⟨hcs,_⟩ | ⟨x,l,c,m,D,Pl,hcs,hl,hm,hml,hx,hi⟩
  · simp at hcs
    obtain ⟨rfl,rfl,rfl⟩:=hcs
    exact ⟨[],⟨Rd.nil _ _ _,(fun a ha => by cases ha),fun a ha => by cases ha⟩,Nat.le_refl _,by omega⟩
  · simp at hcs
    obtain ⟨rfl,rfl,rfl⟩:=hcs
    have hx : d = .slice ((List.range len).map D) ((List.range (m - len)).map fun j => D (len + j)):=hx
    have hv : ∀ i,∃ q : Acc,i < len → ((q.nm.size ≤ maxLen ∧ (Lit.int .i64 q.par).wf = true) ∧ U q.us) ∧ ∀ k v,(Ec.enc q)[k]? = some v → W.cell? (x.add (i * 5 + k)) = some v:=fun i => by
      by_cases him : i < len
      · obtain ⟨n,hf⟩:=hi i (by omega)
        obtain ⟨v0,y0,c0,t0⟩:=hf 0 _ rfl
        obtain ⟨v1,y1,c1,t1⟩:=hf 1 _ rfl
        obtain ⟨v2,y2,c2,t2⟩:=hf 2 _ rfl
        obtain ⟨v3,y3,c3,t3⟩:=hf 3 _ rfl
        obtain ⟨v4,y4,c4,t4⟩:=hf 4 _ rfl
        obtain ⟨b0,e0,_,s0⟩:=DataW.trod_string Tryz.underlying9 t0
        obtain ⟨b1,e1,_,w1⟩:=DataW.trod_int Tryz.underlying3 t1
        obtain ⟨b2,e2,_,_⟩:=DataW.trod_int Tryz.underlying3 t2
        obtain ⟨b3,e3,_⟩:=DataW.trod_bool Tryz.underlying4 t3
        obtain ⟨b4,e4,_,w4⟩:=DataW.trod_int Tryz.underlying30 t4
        simp at e0 e1 e2 e3 e4
        subst e0 e1 e2 e3 e4
        refine ⟨⟨b0,b1,b2,b3,b4⟩,fun _ => ⟨⟨⟨s0,w1⟩,wf_u w4⟩,fun k v hk => ?_⟩⟩
        have hk5 : k < 5:=by have:=(List.getElem?_eq_some_iff.1 hk).1;simpa [Ec] using this
        have : k = 0 ∨ k = 1 ∨ k = 2 ∨ k = 3 ∨ k = 4:=by omega
        rcases this with rfl | rfl | rfl | rfl | rfl <;> (simp [Ec] at hk;subst hk;assumption)
      · exact ⟨⟨ByteArray.empty,0,0,false,0⟩,fun h => absurd h him⟩
    let f : Nat → Acc:=fun i => Classical.choose (hv i)
    have hf':=fun i => Classical.choose_spec (hv i)
    refine ⟨(List.range len).map f,⟨⟨by simp,by simp only [maxLen] at hm;omega,fun _ => ⟨x,rfl,fun i v hiv => ?_⟩⟩,fun q hq => ?_,fun q hq => ?_⟩,hl,?_⟩
    · have hi5 : i < len * 5:=by
        have:=(List.getElem?_eq_some_iff.1 hiv).1
        rw [flat_len] at this
        simpa [Ec] using this
      obtain ⟨q,hq⟩ : ∃ q,q = i / 5:=⟨_,rfl⟩
      obtain ⟨r,hr⟩ : ∃ r,r = i % 5:=⟨_,rfl⟩
      have ei : i = q * 5 + r:=by omega
      have hq1 : q < len:=by omega
      have hat : ((List.range len).map f)[q]? = some (f q):=by simp [hq1]
      have e:=flat_at Ec _ q r (f q) hat (by show r < 5;omega)
      rw [ei] at hiv
      have h2 : (Ec.enc (f q))[r]? = some v:=e.symm.trans hiv
      rw [ei]
      exact (hf' q hq1).2 r v h2
    · obtain ⟨i,hi1,rfl⟩:=List.mem_map.1 hq
      exact (hf' i (List.mem_range.1 hi1)).1.1
    · obtain ⟨i,hi1,rfl⟩:=List.mem_map.1 hq
      exact (hf' i (List.mem_range.1 hi1)).1.2
    · subst hx
      have z:=sized_slice hsz ht hd Tryz.underlying24
      rw [show Tryz.prog.bytesOf 32 = 48 by kernel_rfl] at z
      simp only [List.length_map,List.length_range] at z
      exact Nat.le_trans (Nat.mul_le_mul_right _ (by omega)) z
end Go.Proofs.YtbhijfbjdbjpbaaGreatDoor.T
namespace Go.Proofs.YtbhijfbjdbjpbaaGreatDoor.T
open Go.RowKit Go.Proofs.YtbhijfbjdbjpbaaGreatDoorW.PrintWords Go.Proofs.YtbhijfbjdbjpbaaGreatDoorW.PrintLast Go.Proofs.YtbhijfbjdbjpbaaGreatDoor.H Go.Maps Go.Proofs.YtbhijfbjdbjpbaaGreatDoor.Q Go.Proofs.YtbhijfbjdbjpbaaGreatDoor.GSH
set_option linter.unusedVariables false
set_option linter.unusedSimpArgs false
/-- copy into a row of one's own,at elements of whatever size. -/
theorem wpl_copyE {P : Program} {ops : Array Oper} {rest : List Oper} {o : Oper} {a : Act} {Q : Exit → Act → World → Prop} {α : Type} (E : Enc α) {w : World} (hgd : o.guard = none) (d s : Operand) (t u e : TypeId)
    (ho : o.op = .call { callee:=.builtin .copy,args:=#[d,s],argTypes:=#[t,u] }) (ht : P.underlying t = some (.slice e)) (hinfo : (P.info? e).map (·.size) = some E.sz)
    (base g m : Nat) (zs : List Value) (A : Option Addr) (n c : Nat) (xs : List α) (hd : a.eval d = .slice (some ⟨g,0,none⟩) m m) (hs : a.eval s = .slice A n c) (hnm : n ≤ m)
    (HO : w.ownsRow base e E.sz (.slice (some ⟨g,0,none⟩) m m) m zs) (HR : Rd E w A n xs)
    (h : ∀ w1,w1.ownsRow base e E.sz (.slice (some ⟨g,0,none⟩) m m) m (flat E xs ++ zs.drop (n * E.sz)) → w.grownBy w1 (some g) → wpList P ops Q rest (a.put o.dst (goInt n)) w1) :
    wpList P ops Q (o :: rest) a w:=by
  obtain ⟨hl,h2⟩:=HO
  rcases h2 with ⟨he,_⟩ | ⟨g',cap,cur,he,hb,hh,hn,hm,hz,hx⟩
  · cases he
  injection he with he1 _ he2
  injection he1 with he1
  injection he1 with he1
  subst he1 he2
  have hfl : (flat E xs).length = n * E.sz:=by rw [flat_len,HR.1]
  have hmin : Nat.min n m = n:=Nat.min_eq_left hnm
  have hle : n * E.sz ≤ m * E.sz:=Nat.mul_le_mul_right _ hnm
  have hrun : (Builtin.copy_ #[t,u] o.type #[.slice (some ⟨g,0,none⟩) m m,.slice A n c]).run P w = .ok (goInt n) (w.setRow g (cur.toList.take 0 ++ flat E xs ++ cur.toList.drop (0 + (flat E xs).length)).toArray):=by
    obtain ⟨i,hi,his⟩:=Option.map_eq_some_iff.1 hinfo
    have hst:=run_storeCells_at P g 0 e (flat E xs) 0 cur w hh (by rw [hfl,hz];omega) (flat_oneCell E xs)
    rcases Nat.eq_zero_or_pos n with h0 | h0
    · have hx0 : flat E xs = []:=List.eq_nil_of_length_eq_zero (by rw [hfl,h0];omega)
      rw [hx0] at hst ⊢
      subst h0
      cases A with
      | none => simp [Builtin.copy_,run_underlying ht,Builtin.lenOf,Builtin.firstCells,sizeOf,typeInfo,hi,his,hmin] at hst ⊢;simp [hst]
      | some ad =>
        have hld:=run_loadCells_list (P:=P) w ad [] (by simp)
        simp [Builtin.copy_,run_underlying ht,Builtin.lenOf,Builtin.firstCells,sizeOf,typeInfo,hi,his,hmin] at hld hst ⊢
        simp [hst,hld]
    · obtain ⟨ad,rfl,hc⟩:=HR.2.2 h0
      have hld:=run_loadCells_list (P:=P) w ad (flat E xs) hc
      rw [hfl] at hld
      simp [Builtin.copy_,run_underlying ht,Builtin.lenOf,Builtin.firstCells,sizeOf,typeInfo,hi,his,hmin,hld,hst]
  refine wpList_plain hgd fun K hK => ?_
  unfold Oper.wp execOp
  simp only [ho,resolve,invoke,builtin,Sem.run_bind,Sem.run_pure,Result.andThen_ok,List.map_toArray,List.map_cons,List.map_nil,hd,hs,hrun]
  refine hK _ _ (h _ ⟨?_,.inr ⟨g,m,_,rfl,hb,setRow_heap w g cur _ e _ hh,Nat.le_refl _,hm,?_,?_⟩⟩ ⟨rfl,rfl,rfl,by simp,fun k _ hk => setRow_other _ g k _ (fun e => hk (by rw [e]))⟩)
  · rw [List.length_append,List.length_drop,hfl,hl];omega
  · have hcl : cur.toList.length = m * E.sz:=by rw [Array.length_toList];exact hz
    simp only [List.size_toArray,List.length_append,List.length_take,List.length_drop,hfl,hcl];omega
  · have hcl : cur.toList.length = m * E.sz:=by rw [Array.length_toList];exact hz
    rw [List.take_of_length_le (by rw [hcl];exact Nat.le_refl _)] at hx
    rw [← hx]
    simp only [List.take_zero,List.nil_append,Nat.zero_add,hfl]
    rw [List.take_of_length_le (by simp only [List.length_append,List.length_drop,hfl,hcl];omega)]

theorem sl_of_own {w : World} {P n : Nat} {v : Value} {xs : List Int} (hl : xs.length = n) (h : w.ownsRow P 30 (Ei .u64).sz v n (flat (Ei .u64) xs)) : ∃ s : Sl,v = .slice s.A s.n s.c ∧ s.xs = xs ∧ SlOwn w P s:=by
  obtain ⟨A,c,rfl,-,-,-⟩:=own_open hl h
  exact ⟨⟨A,n,c,xs⟩,rfl,rfl,h⟩
theorem sl_nil (w : World) (P : Nat) : SlOwn w P ⟨none,0,0,[]⟩:=own_nil _ _ _ _
/-- What is answered,or nothing. -/
def orNil (b : Prop) [Decidable b] (xs : List Int) : List Int:=if b then xs else []
theorem orNil_yes {b : Prop} [Decidable b] {xs : List Int} (h : b) : orNil b xs = xs:=if_pos h
theorem orNil_no {b : Prop} [Decidable b] {xs : List Int} (h : ¬ b) : orNil b xs = []:=if_neg h
def numsL (ls : List Acc) : List Int:=orNil (loadE ls = 0) (numsV ls)
def densL (ls : List Acc) : List Int:=orNil (loadE ls = 0) (densV ls)
def effL (C F : Int) (ls : List Acc) : List Int:=orNil (loadE ls = 0 ∧ C = 0) (effsV ls (wholeV ls F))
def factL (C F : Int) (ls : List Acc) : List Int:=orNil (loadE ls = 0 ∧ C = 0) (factsV ls (wholeV ls F))
theorem or_len {b : Prop} [Decidable b] {xs : List Int} (h : b → xs.length ≤ 64) : (orNil b xs).length ≤ 64:=by
  unfold orNil;split
  · rename_i h1;exact h h1
  · simp
theorem nums_le (ls : List Acc) : (numsL ls).length ≤ 64:=or_len fun h => by unfold numsV;rw [List.length_map,List.length_range];exact (tree_of h).le
theorem dens_le (ls : List Acc) : (densL ls).length ≤ 64:=or_len fun h => by unfold densV;rw [List.length_map,List.length_range];exact (tree_of h).le
theorem eff_le (C F : Int) (ls : List Acc) : (effL C F ls).length ≤ 64:=or_len fun h => by unfold effsV;rw [List.length_map,List.length_range];exact (tree_of h.1).le
theorem fact_le (C F : Int) (ls : List Acc) : (factL C F ls).length ≤ 64:=or_len fun h => by unfold factsV;rw [List.length_map,List.length_range];exact (tree_of h.1).le
/-- One list is answered,of one's own. -/
def OneI (w : World) (xs : List Int) (e : Ending) (w' : World) : Prop:=
  w.grownBy w' none ∧ ∃ s : Sl,e = .returned (.slice s.A s.n s.c) ∧ s.xs = xs ∧ SlOwn w' w.heap.size s
/-- Two lists are answered,of one's own,apart. -/
def TwoI (w : World) (xs ys : List Int) (e : Ending) (w' : World) : Prop:=
  w.grownBy w' none ∧ ∃ s t : Sl,e = .returned (.tuple #[.slice s.A s.n s.c,.slice t.A t.n t.c]) ∧ s.xs = xs ∧ t.xs = ys ∧ SlOwn w' w.heap.size s ∧ SlOwn w' w.heap.size t ∧ ∀ k,blkOf s.A k → ¬ blkOf t.A k
/-- Two lists are answered. -/
def TwoR (w : World) (xs ys : List Int) (e : Ending) (w' : World) : Prop:=
  w.grownBy w' none ∧ ∃ s t : Sl,e = .returned (.tuple #[.slice s.A s.n s.c,.slice t.A t.n t.c]) ∧ s.xs = xs ∧ t.xs = ys ∧ SlOwn w' w.heap.size s ∧ SlOwn w' w.heap.size t
theorem rl_one {w : World} {ls : List Acc} {C : Int} {xs : List Int} (hl : xs.length = ls.length) {e : Ending} {w' : World} (h : RLI w C ls xs e w') : OneI w (orNil (loadE ls = 0 ∧ C = 0) xs) e w':=by
  obtain ⟨hg,v,rfl,h1,h2⟩:=h
  by_cases h0 : loadE ls = 0 ∧ C = 0
  · obtain ⟨s,rfl,hs1,hs2⟩:=sl_of_own hl (h2 h0.1 h0.2)
    exact ⟨hg,s,rfl,hs1.trans (orNil_yes h0).symm,hs2⟩
  · obtain ⟨s,rfl,hs1,hs2⟩:=sl_of_own rfl (h1 (by rcases Classical.em (loadE ls = 0) with h | h;exact .inr (fun h2 => h0 ⟨h,h2⟩);exact .inl h))
    exact ⟨hg,s,rfl,hs1.trans (orNil_no h0).symm,hs2⟩
section
variable (w : World) (a0 a1 a2 a3 a4 a5 a6 a7 : Int) (A : Option Addr) (n c : Nat) (ls : List Acc) (hr : Rd Ec w A n ls) (hc : n ≤ c) (hok : AccOk ls) (hus : AccU ls)
include hr hc hok
theorem Shares_two : Calls Tryz.prog 5 #[.slice A n c] w (TwoI w (numsL ls) (densL ls)):=by
  refine (Shares_calls w A n c ls hr hc hok).mono ?_
  rintro e w' ⟨hg,h⟩
  rcases h with ⟨h0,rfl⟩ | ⟨h0,nb,db,hnd,rfl,h1,h2⟩
  · refine ⟨hg,⟨none,0,0,[]⟩,⟨none,0,0,[]⟩,rfl,(orNil_no h0).symm,(orNil_no h0).symm,sl_nil _ _,sl_nil _ _,?_⟩
    rintro k ⟨ad,h,-⟩;cases h
  · refine ⟨hg,⟨some ⟨nb,0,none⟩,ls.length,ls.length,numsV ls⟩,⟨some ⟨db,0,none⟩,ls.length,ls.length,densV ls⟩,rfl,(orNil_yes h0).symm,(orNil_yes h0).symm,h1,h2,?_⟩
    rintro k ⟨ad,h,rfl⟩ ⟨bd,h3,h4⟩
    cases h;cases h3
    exact hnd h4.symm
theorem rShares_two : Calls Tryz.prog 6 #[.slice A n c] w (TwoR w (numsL ls) (densL ls)):=by
  refine (rShares_calls w A n c ls hr hc hok).mono ?_
  rintro e w' ⟨hg,v1,v2,rfl,h1,h2⟩
  by_cases h0 : loadE ls = 0
  · obtain ⟨a,b⟩:=h2 h0
    obtain ⟨s,rfl,hs1,hs2⟩:=sl_of_own (by unfold numsV;rw [List.length_map,List.length_range]) a
    obtain ⟨t,rfl,ht1,ht2⟩:=sl_of_own (by unfold densV;rw [List.length_map,List.length_range]) b
    exact ⟨hg,s,t,rfl,hs1.trans (orNil_yes h0).symm,ht1.trans (orNil_yes h0).symm,hs2,ht2⟩
  · obtain ⟨a,b⟩:=h1 h0
    obtain ⟨s,rfl,hs1,hs2⟩:=sl_of_own rfl a
    obtain ⟨t,rfl,ht1,ht2⟩:=sl_of_own rfl b
    exact ⟨hg,s,t,rfl,hs1.trans (orNil_no h0).symm,ht1.trans (orNil_no h0).symm,hs2,ht2⟩
include hus
theorem Effective_one : Calls Tryz.prog 8 #[.agg #[.int .i64 a0,.int .i64 a1,.int .i64 a2,.int .i64 a3,.int .i64 a4,.int .i64 a5,.int .i64 a6,.int .i64 a7],.slice A n c] w (OneI w (effL (checkV a0 a1 a2 a3 a4 a5 a6 a7) (floorV a0 a1 a2 a3 a4 a5 a6 a7) ls)):=by
  refine (Effective_calls w a0 a1 a2 a3 a4 a5 a6 a7 A n c ls hr hc hok hus).mono ?_
  rintro e w' ⟨hg,h⟩
  rcases h with ⟨h0,rfl⟩ | ⟨h0,h1,ob,rfl,h2⟩
  · exact ⟨hg,⟨none,0,0,[]⟩,rfl,(orNil_no (fun h => h0.elim (fun k => k h.1) (fun k => k h.2))).symm,sl_nil _ _⟩
  · exact ⟨hg,⟨some ⟨ob,0,none⟩,ls.length,ls.length,_⟩,rfl,(orNil_yes ⟨h0,h1⟩).symm,h2⟩
theorem Factors_one (hL : LaidW w) : Calls Tryz.prog 10 #[.agg #[.int .i64 a0,.int .i64 a1,.int .i64 a2,.int .i64 a3,.int .i64 a4,.int .i64 a5,.int .i64 a6,.int .i64 a7],.slice A n c] w (OneI w (factL (checkV a0 a1 a2 a3 a4 a5 a6 a7) (floorV a0 a1 a2 a3 a4 a5 a6 a7) ls)):=by
  refine (Factors_calls w hL a0 a1 a2 a3 a4 a5 a6 a7 A n c ls hr hc hok hus).mono ?_
  rintro e w' ⟨hg,h⟩
  rcases h with ⟨h0,rfl⟩ | ⟨h0,h1,v,rfl,h2⟩
  · exact ⟨hg,⟨none,0,0,[]⟩,rfl,(orNil_no (fun h => h0.elim (fun k => k h.1) (fun k => k h.2))).symm,sl_nil _ _⟩
  · obtain ⟨s,rfl,hs1,hs2⟩:=sl_of_own (by unfold factsV;rw [List.length_map,List.length_range]) h2
    exact ⟨hg,s,rfl,hs1.trans (orNil_yes ⟨h0,h1⟩).symm,hs2⟩
theorem rEffective_one : Calls Tryz.prog 9 #[.agg #[.int .i64 a0,.int .i64 a1,.int .i64 a2,.int .i64 a3,.int .i64 a4,.int .i64 a5,.int .i64 a6,.int .i64 a7],.slice A n c] w (OneI w (effL (checkV a0 a1 a2 a3 a4 a5 a6 a7) (floorV a0 a1 a2 a3 a4 a5 a6 a7) ls)):=
  (rEffective_calls w a0 a1 a2 a3 a4 a5 a6 a7 A n c ls hr hc hok hus).mono fun e w' h => rl_one (by unfold effsV;rw [List.length_map,List.length_range]) h
theorem rFactors_one : Calls Tryz.prog 11 #[.agg #[.int .i64 a0,.int .i64 a1,.int .i64 a2,.int .i64 a3,.int .i64 a4,.int .i64 a5,.int .i64 a6,.int .i64 a7],.slice A n c] w (OneI w (factL (checkV a0 a1 a2 a3 a4 a5 a6 a7) (floorV a0 a1 a2 a3 a4 a5 a6 a7) ls)):=
  (rFactors_calls w a0 a1 a2 a3 a4 a5 a6 a7 A n c ls hr hc hok hus).mono fun e w' h => rl_one (by unfold factsV;rw [List.length_map,List.length_range]) h
end
/-- The world of the walk: the config's block,the row of one's own,and what was there ahead. -/
structure StW (w W : World) (cf : Array Value) (g7 ob n : Nat) (own : List Acc) (f : Nat → Int) : Prop where
  tn : Tn w W (fun k => w.heap.size ≤ k)
  cfg : W.heap[g7]? = some (.cells cf 23 (0,0))
  row : W.ownsRow w.heap.size 32 Ec.sz (.slice (some ⟨ob,0,none⟩) (n + 1 : Nat) (n + 1 : Nat)) (n + 1) (flat Ec own)
  fg : f g7 = -101
  fo : f ob = -100
  old : ∀ k,k < w.heap.size → f k = -1000
section
variable {w W W' : World} {cf : Array Value} {g7 ob n : Nat} {own : List Acc} {f f' : Nat → Int}
theorem StW.lt (h : StW w W cf g7 ob n own f) {T : Int → Prop} (hl : Lt W f W' f' T) (hT : ∀ c,T c → 0 ≤ c) : StW w W' cf g7 ob n own f':=by
  have h1:=h.fg
  have h2:=h.fo
  refine ⟨h.tn.trans hl.tn (fun i hi hg => ?_),blk_tn h.cfg hl.tn (fun e => by have:=hT _ e;omega),own_tn h.row hl.tn (fun k hk e => ?_),?_,?_,fun k hk => ?_⟩
  · have h3:=h.old i hi;have h4 : 0 ≤ f i:=hT _ hg;omega
  · cases hk;have h4 : 0 ≤ f ob:=hT _ e;omega
  · rw [hl.lab _ (blk_lt' h.cfg)];exact h1
  · rw [hl.lab _ (h.row.lt ob rfl).2];exact h2
  · rw [hl.lab k (Nat.lt_of_lt_of_le hk h.tn.size)];exact h.old k hk
theorem StW.set (h : StW w W cf g7 ob n own f) {j i : Nat} {x y : Acc} {v : Value} (hx : own[j]? = some x) (hi : i < 5) (he : (Ec.enc x).set i v = Ec.enc y) : StW w (W.setCell ⟨ob,j * 5 + i,none⟩ v) cf g7 ob n (own.set j y) f:=by
  have h1:=h.fg
  have h2:=h.fo
  have t:=Tn.set (w:=W) ob (j * 5 + i) v (F:=fun k => k = ob) rfl
  refine ⟨h.tn.trans t (fun k hk e => by have h5:=(h.row.lt ob rfl).1;have h6 : k = ob:=e;show w.heap.size ≤ k;omega),blk_tn h.cfg t (fun e => by rw [e] at h1;omega),own_put (E:=Ec) h.row j i x y v hx hi he,h1,h2,h.old⟩
theorem set_lt' (h : StW w W cf g7 ob n own f) (j : Nat) (v : Value) : Lt W f (W.setCell ⟨ob,j,none⟩ v) f (fun c => c = -100):=⟨Tn.set ob j v h.fo,fun _ _ => rfl⟩
theorem StW.old_rd (h : StW w W cf g7 ob n own f) {A : Option Addr} {m : Nat} {ls : List Acc} (hr : Rd Ec w A m ls) : Rd Ec W A m ls:=accs_tn hr h.tn
theorem StW.laid (h : StW w W cf g7 ob n own f) (hl : LaidW w) : LaidW W:=laid_tn hl h.tn (fun e => Nat.lt_irrefl _ (Nat.lt_of_lt_of_le (laid_pos hl) e))
theorem StW.own_rd (h : StW w W cf g7 ob n own f) {ls : List Acc} {b : Acc} (he : own = ls ++ [b]) (hl : ls.length = n) : Rd Ec W (some ⟨ob,0,none⟩) n ls:=by
  have h1:=(Go.Proofs.YtbhijfbjdbjpbaaGreatDoor.H.own_rd (by rw [he];simp [hl]) h.row).take_ n (by omega)
  rw [he,← hl,List.take_left] at h1
  rwa [hl] at h1
end
theorem kept_nil {w : World} {P h : Nat} {f : Nat → Int} (hb : w.heap[h]? = some (.cells #[.slice none 0 0,.slice none 0 0,.int .i64 0] 29 (0,0))) (hP : P ≤ h) (f0 : f h = 0) : Kept w P h none 0 none 0 [] [] f:=
  ⟨hb,own_nil _ _ _ _,own_nil _ _ _ _,rfl,by simp,by simp,hP,f0,(fun k ⟨_,h,_⟩ => by cases h),(fun k ⟨_,h,_⟩ => by cases h),fun i s h => by simp at h,fun i s h => by simp at h⟩
/-- Two lists of one's own get their labels. -/
theorem Lt.two {w w' : World} {f : Nat → Int} {s t : Sl} (hg : w.grownBy w' none) (hs : SlOwn w' w.heap.size s) (ht : SlOwn w' w.heap.size t) (hne : ∀ k,blkOf s.A k → ¬ blkOf t.A k) (x y : Int) :
    ∃ f',Lt w f w' f' (fun _ => False) ∧ (∀ k,blkOf s.A k → f' k = x) ∧ (∀ k,blkOf t.A k → f' k = y):=by
  classical
  refine ⟨fun k => if k < w.heap.size then f k else if blkOf s.A k then x else y,⟨Tn.gb0 hg _,fun k hk => if_pos hk⟩,fun k hk => ?_,fun k hk => ?_⟩
  · have:=(hs.lt hk).1
    show (if k < w.heap.size then f k else if blkOf s.A k then x else y) = x
    rw [if_neg (by omega),if_pos hk]
  · have:=(ht.lt hk).1
    show (if k < w.heap.size then f k else if blkOf s.A k then x else y) = y
    rw [if_neg (by omega),if_neg (fun h => hne k h hk)]
theorem Lt.one {w w' : World} {f : Nat → Int} {s : Sl} (hg : w.grownBy w' none) (hs : SlOwn w' w.heap.size s) (x : Int) : ∃ f',Lt w f w' f' (fun _ => False) ∧ (∀ k,blkOf s.A k → f' k = x):=by
  obtain ⟨f',h1,h2⟩:=Lt.new (f:=f) (T:=fun _ => False) (Tn.gb0 hg _) x
  exact ⟨f',h1,fun k hk => h2 k (hs.lt hk).1⟩
theorem SlOwn.low {w : World} {P P' : Nat} {s : Sl} (h : SlOwn w P s) (hP : P' ≤ P) : SlOwn w P' s:=own_mono h hP
theorem SlOwn.lab {w w' : World} {f f' : Nat → Int} {T : Int → Prop} {P : Nat} {s : Sl} (h : SlOwn w P s) (hl : Lt w f w' f' T) {x : Int} (hx : ∀ k,blkOf s.A k → f k = x) (hT : ¬ T x) : SlOwn w' P s ∧ ∀ k,blkOf s.A k → f' k = x:=
  ⟨h.tn hl.tn (fun k hk => by rw [hx k hk];exact hT),fun k hk => by rw [hl.lab k (h.lt hk).2];exact hx k hk⟩
/-- An account,as the law turns it. -/
def turnA (a : Acc) : Acc:=⟨a.nm,a.par,a.sh,!a.cl,Int.tdiv a.us 3⟩
def usA (a : Acc) : Acc:=⟨a.nm,a.par,a.sh,a.cl,Int.tdiv a.us 3⟩
/-- The first j of a list are turned. -/
def turnTo : Nat → List Acc → List Acc
  | 0,l => l
  | _ + 1,[] => []
  | j + 1,a :: l => turnA a :: turnTo j l
theorem turnTo_at : ∀ (j : Nat) (l : List Acc) (i : Nat),j ≤ i → (turnTo j l)[i]? = l[i]?
  | 0,_,_,_ => rfl
  | _ + 1,[],_,_ => rfl
  | j + 1,a :: l,0,h => by omega
  | j + 1,a :: l,i + 1,h => by show (turnTo j l)[i]? = l[i]?;exact turnTo_at j l i (by omega)
theorem turnTo_succ : ∀ (j : Nat) (l : List Acc) (a : Acc),l[j]? = some a → turnTo (j + 1) l = (turnTo j l).set j (turnA a)
  | _,[],_,h => by simp at h
  | 0,b :: l,a,h => by
    obtain rfl : b = a:=by simpa using h
    rfl
  | j + 1,b :: l,a,h => by
    show turnA b :: turnTo (j + 1) l = turnA b :: (turnTo j l).set j (turnA a)
    rw [turnTo_succ j l a (by simpa using h)]
theorem turnTo_all : ∀ (l : List Acc) (b : Acc),turnTo l.length (l ++ [b]) = l.map turnA ++ [b]
  | [],b => rfl
  | a :: l,b => by show turnA a :: turnTo l.length (l ++ [b]) = _;rw [turnTo_all l b];rfl
theorem turn_ok {ls : List Acc} (h : AccOk ls) : AccOk (ls.map turnA):=fun a ha => by
  obtain ⟨b,hb,rfl⟩:=List.mem_map.1 ha
  exact h b hb
theorem turn_us {ls : List Acc} (h : AccU ls) : AccU (ls.map turnA):=fun a ha => by
  obtain ⟨b,hb,rfl⟩:=List.mem_map.1 ha
  obtain ⟨h0,h1⟩:=h b hb
  have : Int.tdiv b.us 3 = b.us / 3:=Int.tdiv_eq_ediv_of_nonneg h0
  show U (Int.tdiv b.us 3)
  rw [this]
  exact ⟨by omega,by omega⟩

/-- A list of a block of its own,by its label. -/
def Lb (W : World) (P : Nat) (f : Nat → Int) (s : Sl) (x : Int) : Prop:=SlOwn W P s ∧ ∀ k,blkOf s.A k → f k = x
theorem Lb.lt {W W' : World} {P : Nat} {f f' : Nat → Int} {s : Sl} {x : Int} (h : Lb W P f s x) {T : Int → Prop} (hl : Lt W f W' f' T) (hT : ¬ T x) : Lb W' P f' s x:=h.1.lab hl h.2 hT
/-- The world of the walk,with the book,which holds N lists. -/
def TS (w W : World) (cf : Array Value) (g7 ob n : Nat) (own : List Acc) (kb : Nat) (f : Nat → Int) (N : Nat) : Prop:=
  StW w W cf g7 ob n own f ∧ ∃ OA oc WA wc os ws,Kept W w.heap.size kb OA oc WA wc os ws f ∧ os.length = N ∧ ∀ s ∈ os,s.n ≤ 64
section
variable {w W W' : World} {cf : Array Value} {g7 ob n : Nat} {own : List Acc} {kb N : Nat} {f f' : Nat → Int}
theorem TS.lt (h : TS w W cf g7 ob n own kb f N) (hl : Lt W f W' f' (fun _ => False)) : TS w W' cf g7 ob n own kb f' N:=by
  obtain ⟨h1,OA,oc,WA,wc,os,ws,h2,h3,h4⟩:=h
  exact ⟨h1.lt hl (fun _ h => h.elim),OA,oc,WA,wc,os,ws,h2.lt hl (fun _ _ h => h),h3,h4⟩
theorem TS.gb (h : TS w W cf g7 ob n own kb f N) (hg : W.grownBy W' none) : TS w W' cf g7 ob n own kb f N:=h.lt (Lt.gb hg)
theorem TS.low (h : TS w W cf g7 ob n own kb f N) : w.heap.size ≤ W.heap.size:=h.1.tn.size
theorem TS.one (h : TS w W cf g7 ob n own kb f N) (hg : W.grownBy W' none) {s : Sl} (hs : SlOwn W' W.heap.size s) (x : Int) : ∃ f',TS w W' cf g7 ob n own kb f' N ∧ Lt W f W' f' (fun _ => False) ∧ Lb W' w.heap.size f' s x:=by
  obtain ⟨f',h1,h2⟩:=Lt.one (f:=f) hg hs x
  exact ⟨f',h.lt h1,h1,hs.low h.low,h2⟩
theorem TS.two (h : TS w W cf g7 ob n own kb f N) (hg : W.grownBy W' none) {s t : Sl} (hs : SlOwn W' W.heap.size s) (ht : SlOwn W' W.heap.size t) (hne : ∀ k,blkOf s.A k → ¬ blkOf t.A k) (x y : Int) :
    ∃ f',TS w W' cf g7 ob n own kb f' N ∧ Lb W' w.heap.size f' s x ∧ Lb W' w.heap.size f' t y:=by
  obtain ⟨f',h1,h2,h3⟩:=Lt.two (f:=f) hg hs ht hne x y
  exact ⟨f',h.lt h1,⟨hs.low h.low,h2⟩,ht.low h.low,h3⟩
theorem TS.both (h : TS w W cf g7 ob n own kb f N) (hg : W.grownBy W' none) {s t : Sl} (hs : SlOwn W' W.heap.size s) (ht : SlOwn W' W.heap.size t) (x : Int) :
    ∃ f',TS w W' cf g7 ob n own kb f' N ∧ Lt W f W' f' (fun _ => False) ∧ Lb W' w.heap.size f' s x ∧ Lb W' w.heap.size f' t x:=by
  obtain ⟨f',h1,h2⟩:=Lt.new (f:=f) (T:=fun _ => False) (Tn.gb0 hg _) x
  exact ⟨f',h.lt h1,h1,⟨hs.low h.low,fun k hk => h2 k (hs.lt hk).1⟩,ht.low h.low,fun k hk => h2 k (ht.lt hk).1⟩
/-- What keeping a list leaves. -/
def KeptI (w W : World) (cf : Array Value) (g7 ob n : Nat) (own : List Acc) (kb : Nat) (f : Nat → Int) (N : Nat) (e : Ending) (W' : World) : Prop:=
  e = .returned (.bool true) ∧ ∃ f',TS w W' cf g7 ob n own kb f' (N + 1) ∧ Lt W f W' f' K012
theorem TS.keep (h : TS w W cf g7 ob n own kb f N) (hN : N ≤ 900) {s q : Sl} {L : List Int} (hs : Lb W w.heap.size f s (3 + 2 * (N : Int))) (hsx : s.xs = L) (hL : L.length ≤ 64) (hq : Lb W w.heap.size f q (-200)) (hqx : q.xs = L) :
    Calls Tryz.prog 7 #[.pointer (some ⟨kb,0,none⟩),.slice s.A s.n s.c,.slice q.A q.n q.c] W (KeptI w W cf g7 ob n own kb f N):=by
  obtain ⟨h1,OA,oc,WA,wc,os,ws,h2,h3,h4⟩:=h
  have e : q.n = s.n:=by rw [← hq.1.len,← hs.1.len,hsx,hqx]
  have e2 : s.n ≤ 64:=by rw [← hs.1.len,hsx];exact hL
  have hr:=hq.1.rd
  rw [e,hqx,← hsx] at hr
  rw [e]
  refine (keep_calls W w.heap.size kb OA oc WA wc os ws f s h2 hs.1 (fun k hk => by rw [h3];exact hs.2 k hk) (by omega) (by omega) q.A q.c hr (fun k hk hK => by have:=hq.2 k hk;rcases hK with h | h | h <;> omega)).mono ?_
  rintro e w' ⟨rfl,OA',oc',WA',wc',m',f',hm,hk,hl⟩
  refine ⟨rfl,f',⟨h1.lt hl (fun c hc => by rcases hc with h | h | h <;> omega),OA',oc',WA',wc',_,_,hk,by simp [h3],fun x hx => ?_⟩,hl⟩
  rcases List.mem_append.1 hx with h | h
  · exact h4 x h
  · obtain rfl : x = s:=by simpa using h
    exact e2
theorem TS.spoil (h : TS w W cf g7 ob n own kb f N) (hN : N ≤ 900) :
    Calls Tryz.prog 12 #[.pointer (some ⟨kb,0,none⟩)] W fun e W' => e = .returned (.bool true) ∧ Below w.heap.size w W':=by
  obtain ⟨h1,OA,oc,WA,wc,os,ws,h2,h3,h4⟩:=h
  refine (spoil_calls W w.heap.size kb OA oc WA wc os ws f h2 (by omega) (fun s hs => by have:=h4 s hs;omega)).mono ?_
  rintro e w' ⟨rfl,hl⟩
  exact ⟨rfl,(h1.tn.trans hl (fun i hi hg => by have h5:=h1.old i hi;have h6 : 0 ≤ f i:=hg;omega)).below (Nat.le_refl _) (fun i h => h)⟩
theorem TS.c (h : TS w W cf g7 ob n own kb f N) {j : Nat} {v : Value} (hv : cf[j]? = some v) : W.cell? ⟨g7,j,none⟩ = some v:=cell_of h.1.cfg hv
/-- A store into the row of one's own. -/
theorem TS.set (h : TS w W cf g7 ob n own kb f N) {j i : Nat} {x y : Acc} {v : Value} (hx : own[j]? = some x) (hi : i < 5) (he : (Ec.enc x).set i v = Ec.enc y) : TS w (W.setCell ⟨ob,j * 5 + i,none⟩ v) cf g7 ob n (own.set j y) kb f N:=by
  obtain ⟨h1,OA,oc,WA,wc,os,ws,h2,h3,h4⟩:=h
  exact ⟨h1.set hx hi he,OA,oc,WA,wc,os,ws,h2.lt (set_lt' h1 (j * 5 + i) v) (fun c hc e => by omega),h3,h4⟩
end
theorem acc_eql (a b : Acc) (W : World) : (binOp .eql 32 (.agg (accV a)) (.agg (accV b))).run Tryz.prog W = .ok (.bool (accEq a b)) W:=by
  have h : (Op.equal 32 (.agg (accV a)) (.agg (accV b))).run Tryz.prog W = _:=acc_equal a b W
  simp [binOp,h]
theorem accEq_self (a : Acc) : accEq a a = true:=by unfold accEq;simp
theorem own5 {w W : World} {cf : Array Value} {g7 ob n : Nat} {own : List Acc} {f : Nat → Int} (h : StW w W cf g7 ob n own f) {j : Nat} {x : Acc} (hx : own[j]? = some x) :
    W.cell? ⟨ob,j * 5,none⟩ = some (.string x.nm) ∧ W.cell? ⟨ob,j * 5 + 1,none⟩ = some (.int .i64 x.par) ∧ W.cell? ⟨ob,j * 5 + 2,none⟩ = some (.int .i64 x.sh) ∧ W.cell? ⟨ob,j * 5 + 3,none⟩ = some (.bool x.cl) ∧ W.cell? ⟨ob,j * 5 + 4,none⟩ = some (.int .u64 x.us):=
  ⟨own_cell (E:=Ec) h.row j 0 x hx (by decide) _ rfl,own_cell (E:=Ec) h.row j 1 x hx (by decide) _ rfl,own_cell (E:=Ec) h.row j 2 x hx (by decide) _ rfl,own_cell (E:=Ec) h.row j 3 x hx (by decide) _ rfl,own_cell (E:=Ec) h.row j 4 x hx (by decide) _ rfl⟩
end Go.Proofs.YtbhijfbjdbjpbaaGreatDoor.T
